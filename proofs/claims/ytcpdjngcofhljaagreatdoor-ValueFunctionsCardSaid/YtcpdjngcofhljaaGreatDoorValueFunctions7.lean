/- Law ValueFunctions: a part of its proof. No conditions. -/
import Derived.Test.YtcpdjngcofhljaaGreatDoorValueFunctions6
set_option linter.unusedSimpArgs false
set_option linter.unusedVariables false
section
namespace Go.AM.Num
theorem EP {P:UInt8->Prop} (h:∀ n:Fin 256,P (UInt8.ofNat n.val)) (c:UInt8):P c:=by
 have:=h ⟨c.toNat,c.toNat_lt⟩
 simpa using this
theorem TJ (c:UInt8):J_ (c.toNat:Int)=some ((letterB c,()),()):=by
 refine EP (P:=fun c=>J_ (c.toNat:Int)=some ((letterB c,()),())) ?_ c
 decide +kernel
theorem AIB (c:UInt8):decide ((c.toNat:Int)>=48)=decide (48<=c):=by
 refine EP (P:=fun c=>decide ((c.toNat:Int)>=48)=decide (48<=c)) ?_ c
 decide +kernel
theorem AH9 (c:UInt8):decide ((c.toNat:Int)<=57)=decide (c<=57):=by
 refine EP (P:=fun c=>decide ((c.toNat:Int)<=57)=decide (c<=57)) ?_ c
 decide +kernel
theorem TC (c:UInt8):((c.toNat:Int) !=46)=!(c==46):=by
 refine EP (P:=fun c=>((c.toNat:Int) !=46)=!(c==46)) ?_ c
 decide +kernel
theorem XG (c:UInt8):((c.toNat:Int) !=64)=!(c==64):=by
 refine EP (P:=fun c=>((c.toNat:Int) !=64)=!(c==64)) ?_ c
 decide +kernel
theorem Fd {α:Type} (l:List α) (d:α) (p:α->Bool):(List.range l.length).all (fun k=>p (l.getD k d))=l.all p:=by
 rw[Bool.eq_iff_iff,qY3,qY3]
 constructor
 ·intro h x hx
  obtain ⟨i,hi⟩:=List.getElem?_of_mem hx
  have:=h i (by simp only[List.mem_range];exact (List.getElem?_eq_some_iff.1 hi).1)
  simpa [qZ4,hi] using this
 ·intro h k hk
  simp only[List.mem_range] at hk
  simpa [qZ4,hk] using h _ (List.getElem_mem hk)
theorem AGd (s:qBs) (l:List qBs):l.foldr (fun w k=>cond (s==w) (some ((true,()),())) k) (some ((false,()),()))=some ((decide (s∈l),()),()):=by
 induction l with
 |nil=>simp
 |cons w l ih=>
  simp only[List.foldr_cons,ih,qY12]
  by_cases h:s=w
  ·rw[show (s==w)=true by simpa using h];simp[h]
  ·rw[show (s==w)=false by simpa using h];simp[h]
theorem AGu (s:qBs):PR s=some ((decide (s∈JG),()),()):=by
 have:=AGd s JG
 exact this
theorem Wb (s:qBs):(s==[])=decide (s=[]):=by
 cases s<;>simp
theorem AGx (s:qBs):Le s=some ((Fn s,()),()):=by
 unfold Le
 by_cases h0:s=[]
 ·subst h0;decide
 ·rw[show (s==([]:qBs))=false by simpa using h0,AA]
  have hl:0 < s.length:=List.length_pos_iff.2 h0
  unfold Fn
  by_cases h1:s.length<=40
  ·rw[Ax,qZ10 h1,Ak,Ab,Ab,TJ,Ad,AGu,Ad]
   have e:(0:Int).toNat=0:=rfl
   rw[e]
   simp only
   cases letterB (s.getD 0 0) with
   |false=>rfl
   |true=>
    simp only[qY2,AA,Bool.true_and]
    cases decide (s∈JG) with
    |true=>rfl
    |false=>
     rw[AA]
     have key:=CN (step:=KG) (fun k=>(s,false,(s.length:Int),(k:Int),())) (fun k=>(s,false,(s.length:Int),(k:Int),())) s.length (E:=.exit 0) (B:=.ret) (by simp) (by simp) (fun k=>FK (s.getD k 0)) (fun k hk=>by
      unfold KG
      simp only
      rw[As,Ak,Ab,Ab,qZ0,TJ,Ad,AIB,AH9,TC,XG,Aw (x:=(k:Int)+1) (by omega)]
      unfold FK
      generalize letterB (s.getD k 0)=a
      generalize decide (48<=s.getD k 0)=b
      generalize decide (s.getD k 0<=57)=c
      generalize (s.getD k 0==46)=d
      generalize (s.getD k 0==64)=e
      cases a<;>cases b<;>cases c<;>cases d<;>cases e<;>rfl) (by
      unfold KG
      simp only
      rw[Ax])
     rw[Fd] at key
     rcases key with ⟨k1,k2⟩ | ⟨k1,j,k2⟩
     ·rw[show ((0:Nat):Int)=0 from rfl] at k2
      rw[k2,k1]
      simp only[Ad,AX,Ap,qY1,Bool.true_and]
     ·rw[show ((0:Nat):Int)=0 from rfl] at k2
      rw[k2,k1]
      simp only[Ad,Bk,Bl,Ap,AA,Bool.and_false]
  ·rw[As,qZ9 h1]
   rfl
theorem WH (s:Int):KC s=some ((decide (1<=s/\s<=4),()),()):=by
 unfold KC
 by_cases h:s>=1
 ·rw[As h]
  have:decide (s<=4)=decide (1<=s/\s<=4):=by rw[decide_eq_decide];omega
  rw[this]
 ·rw[Ax h,qZ9 (by omega)]
theorem AFT {s:Int} {a:qBs} (h:a.length<=1000000):NL s a=some (((decide (s=2)&&A2 a)||(decide (s=3)&&(rd a).isSome),()),()):=by
 unfold NL
 rw[Hm (by omega),QH (by omega)]
 simp only[Ad]
 by_cases h2:s=2
 ·subst h2
  cases A2 a<;>rfl
 ·rw[Ag h2,qZ9 h2,Bool.false_and,Bool.false_or]
  by_cases h3:s=3
  ·subst h3;rfl
  ·rw[Ag h3,qZ9 h3,Bool.false_and]
theorem AK9 {n:Ac} (h:(Bg n).length<=1000000):NO n=some ((Bq n,()),()):=by
 obtain ⟨o,s,nm,num,kd⟩:=n
 simp only[Bg] at h
 unfold NO Bq
 simp only[nOp,A3,Bo,Bg]
 rw[AFT h,WH,AGx,Hm (by omega),N6 (by omega)]
 simp only[Ad,Wb]
 by_cases e3:o=3
 ·rw[Aq e3,if_pos e3];cases decide (nm=[])<;>rfl
 ·rw[Ag e3,if_neg e3]
  by_cases e4:o=4
  ·rw[Aq e4,if_pos (.inl e4)];cases decide (1<=s/\s<=4)<;>cases Fn nm<;>rfl
  ·rw[Ag e4]
   by_cases e5:o=5
   ·rw[Aq e5,if_pos (.inr e5)];cases decide (1<=s/\s<=4)<;>cases Fn nm<;>rfl
   ·rw[Ag e5,if_neg (by omega)]
    by_cases e6:o=16
    ·rw[Aq e6,if_pos (.inl e6)]
     by_cases z:s=0
     ·rw[Aq z,qZ10 z];cases decide (nm=[])<;>cases A2 num<;>rfl
     ·rw[Ag z,qZ9 z];rfl
    ·rw[Ag e6]
     by_cases e7:o=17
     ·rw[Aq e7,if_pos (.inr e7)]
      by_cases z:s=0
      ·rw[Aq z,qZ10 z];cases decide (nm=[])<;>cases A2 num<;>rfl
      ·rw[Ag z,qZ9 z];rfl
     ·rw[Ag e7,if_neg (by omega)]
      by_cases g1:o>=1
      ·rw[As g1]
       by_cases g2:o<=20
       ·rw[As g2,qZ10 (show 1<=o/\o<=20 from ⟨g1,g2⟩)]
        by_cases z:s=0
        ·rw[Aq z,qZ10 z];cases decide (nm=[])<;>rfl
        ·rw[Ag z,qZ9 z];rfl
       ·rw[Ax g2,qZ9 (by omega)];rfl
      ·rw[Ax g1,qZ9 (by omega)];rfl
theorem AAc {o k:Int} (hk:0<=k):KZ o k=some ((AH o k,()),()):=by
 by_cases h1:o=1;· subst h1;rfl
 by_cases h2:o=2;· subst h2;rfl
 by_cases h3:o=3;· subst h3;rfl
 by_cases h4:o=4;· subst h4;rfl
 by_cases h5:o=5
 ·subst h5
  have e:AH 5 k=decide (1<=k/\k<=40):=rfl
  rw[e]
  unfold KZ
  rw[Ag (by decide),Ag (by decide),Ag (by decide),Ag (by decide),Aq rfl]
  by_cases g:k>=1
  ·rw[As g]
   have:decide (k<=40)=decide (1<=k/\k<=40):=by rw[decide_eq_decide];omega
   rw[this]
  ·rw[Ax g,qZ9 (by omega)]
 by_cases h6:o=6;· subst h6;rfl
 by_cases h16:o=16;· subst h16;rfl
 by_cases h17:o=17;· subst h17;rfl
 by_cases h20:o=20;· subst h20;rfl
 by_cases h7:o=7
 ·subst h7
  have e:AH 7 k=decide (0<=k):=rfl
  rw[e,qZ10 hk];rfl
 by_cases h8:o=8
 ·subst h8
  have e:AH 8 k=decide (0<=k):=rfl
  rw[e,qZ10 hk];rfl
 by_cases h14:o=14;· subst h14;rfl
 by_cases h10:o=10;· subst h10;rfl
 by_cases h19:o=19;· subst h19;rfl
 unfold KZ AH
 rw[Ag h1,Ag h2,Ag h3,Ag h4,Ag h5,Ag h6,Ag h16,Ag h17,Ag h20,Ag h7,Ag h8,Ag h14,Ag h10,Ag h19,
  if_neg (by omega),if_neg h5,if_neg (by omega),if_neg (by omega),if_neg h14,if_neg (by omega)]
 rfl
theorem Zw (b:Bool) (s:Int):BX b s=some ((if b=true then s else 0,()),()):=by cases b<;>rfl
theorem W8 (s:Int):Hb s=some ((decide (s=2\/s=3),()),()):=by
 unfold Hb
 by_cases h:s=2
 ·rw[Aq h,qZ10 (.inl h)]
 ·rw[Ag h]
  have:(s==3)=decide (s=2\/s=3):=by
   have e:(s==3)=decide (s=3):=rfl
   rw[e,decide_eq_decide];omega
  rw[this]
theorem S' {ss:List Int} {s:Int} (hl:ss.length<=1000000000):DB ss s=some ((decide (∀ x∈ss,x=s),()),()):=by
 have key:=CN (step:=LD) (fun k=>(ss,some s,(0:Int),(ss.length:Int),(k:Int),())) (fun k=>(ss,some s,(k:Int),(ss.length:Int),(k:Int),())) ss.length (E:=.exit 0) (B:=.ret) (by simp) (by simp) (fun k=>decide (ss.getD k 0=s)) (fun k hk=>by
  unfold LD
  simp only
  rw[As,Ak,Ab,Ab,qZ0]
  have e:PQ (ss.getD k 0) (some s)=some ((ss.getD k 0 !=s,()),()):=rfl
  rw[e,Ad,Aw (x:=(k:Int)+1) (by omega)]
  by_cases h:ss.getD k 0=s
  ·rw[Bm h,if_pos (qZ10 h)];rfl
  ·rw[Bu h,if_neg (fun e=>h (of_decide_eq_true e))]) (by
  unfold LD
  simp only
  rw[Ax])
 rw[Fd ss 0 (fun x=>decide (x=s))] at key
 rw[show ((0:Nat):Int)=0 from rfl] at key
 unfold DB Pk QF
 rcases key with ⟨k1,k2⟩ | ⟨k1,j,k2⟩
 ·rw[k2]
  simp only[Ad,AX,Ap]
  rw[show decide (∀ x∈ss,x=s)=true from qZ10 (by simpa [qY3] using k1)]
  rfl
 ·rw[k2]
  simp only[Ad,Bk,Bl,Ap,AA]
  rw[show decide (∀ x∈ss,x=s)=false from qZ9 (fun h=>by rw[List.all_eq_true.2 (fun x hx=>qZ10 (h x hx))] at k1;cases k1),qZ10 (show (j:Int)>=0 by omega)]
  rfl
theorem AGm {n:Ac} {ss:List Int} (ho:1<=nOp n/\nOp n<=20) (hl:ss.length<=1000000000) (hc:AH (nOp n) ss.length=true):On n ss=some ((AQ n 3 ss,()),()):=by
 obtain ⟨o,s,nm,num,kd⟩:=n
 simp only[nOp] at ho hc
 unfold On AQ
 simp only[nOp,A3,S' hl,S' (show (ss.drop 1).length<=1000000000 by simp;omega),Zw,W8,Ad,decide_eq_true_eq,show (0:Int).toNat=0 from rfl,show (1:Int).toNat=1 from rfl,show (2:Int).toNat=2 from rfl]
 by_cases h3:o=3;· rw[Aq h3,if_pos (.inl h3)]
 rw[Ag h3]
 by_cases h4:o=4;· rw[Aq h4,if_pos (.inr (.inl h4))]
 rw[Ag h4]
 by_cases h5:o=5;· rw[Aq h5,if_pos (.inr (.inr h5))]
 rw[Ag h5,if_neg (show ¬ (o=3\/o=4\/o=5) by omega)]
 by_cases h1:o=1;· rw[Aq h1,if_pos (show o=1\/o=2\/o=6\/o=7\/o=8\/o=9 by omega)]
 rw[Ag h1]
 by_cases h2:o=2;· rw[Aq h2,if_pos (show o=1\/o=2\/o=6\/o=7\/o=8\/o=9 by omega)]
 rw[Ag h2]
 by_cases h6:o=6;· rw[Aq h6,if_pos (show o=1\/o=2\/o=6\/o=7\/o=8\/o=9 by omega)]
 rw[Ag h6]
 by_cases h7:o=7;· rw[Aq h7,if_pos (show o=1\/o=2\/o=6\/o=7\/o=8\/o=9 by omega)]
 rw[Ag h7]
 by_cases h8:o=8;· rw[Aq h8,if_pos (show o=1\/o=2\/o=6\/o=7\/o=8\/o=9 by omega)]
 rw[Ag h8]
 by_cases h9:o=9;· rw[Aq h9,if_pos (show o=1\/o=2\/o=6\/o=7\/o=8\/o=9 by omega)]
 rw[Ag h9,if_neg (show ¬ (o=1\/o=2\/o=6\/o=7\/o=8\/o=9) by omega)]
 by_cases h10:o=10
 ·subst h10
  rcases ss with _ | ⟨a,_ | ⟨b,_ | ⟨c,_ | ⟨d,l⟩⟩⟩⟩<;>simp[AH] at hc
  ·by_cases q:a=1
   ·simp[Aa,q]
   ·simp[Aa,q,show (a==1)=false by simpa using q]
  ·omega
 rw[Ag h10,if_neg h10]
 by_cases h11:o=11
 ·subst h11
  rcases ss with _ | ⟨a,_ | ⟨b,_ | ⟨c,l⟩⟩⟩<;>simp[AH] at hc
  ·simp[Aa]
  ·omega
 rw[Ag h11,if_neg h11]
 by_cases h12:o=12
 ·subst h12
  rcases ss with _ | ⟨a,_ | ⟨b,_ | ⟨c,l⟩⟩⟩<;>simp[AH] at hc
  ·by_cases q:a=2\/a=3<;>simp[Aa,q]
  ·omega
 rw[Ag h12]
 by_cases h13:o=13
 ·subst h13
  rcases ss with _ | ⟨a,_ | ⟨b,_ | ⟨c,l⟩⟩⟩<;>simp[AH] at hc
  ·by_cases q:a=2\/a=3<;>simp[Aa,q]
  ·omega
 rw[Ag h13,if_neg (show ¬ (o=12\/o=13) by omega)]
 by_cases h14:o=14
 ·subst h14
  rcases ss with _ | ⟨a,l⟩<;>simp[AH] at hc
  by_cases q:a=2\/a=3<;>simp[Aa,q]
 rw[Ag h14,if_neg h14]
 by_cases h15:o=15
 ·subst h15
  rcases ss with _ | ⟨a,_ | ⟨b,_ | ⟨c,l⟩⟩⟩<;>simp[AH] at hc
  ·by_cases q:a=2\/a=3<;>simp[Aa,q]
  ·omega
 rw[Ag h15,if_neg h15]
 by_cases h16:o=16
 ·subst h16
  rcases ss with _ | ⟨a,_ | ⟨b,l⟩⟩<;>simp[AH] at hc
  ·simp[Aa]
  ·omega
 rw[Ag h16]
 by_cases h17:o=17
 ·subst h17
  rcases ss with _ | ⟨a,_ | ⟨b,l⟩⟩<;>simp[AH] at hc
  ·simp[Aa]
  ·omega
 rw[Ag h17,if_neg (show ¬ (o=16\/o=17) by omega)]
 by_cases h18:o=18
 ·subst h18
  rcases ss with _ | ⟨a,_ | ⟨b,_ | ⟨c,l⟩⟩⟩<;>simp[AH] at hc
  ·by_cases q:a=4
   ·simp[Aa,q]
   ·simp[Aa,q,show (a==4)=false by simpa using q]
  ·omega
 rw[Ag h18,if_neg h18]
 by_cases h19:o=19
 ·subst h19
  rcases ss with _ | ⟨a,_ | ⟨b,_ | ⟨c,_ | ⟨d,l⟩⟩⟩⟩<;>simp[AH] at hc
  ·by_cases q:a=4
   ·simp[Aa,q]
   ·simp[Aa,q,show (a==4)=false by simpa using q]
  ·omega
 rw[Ag h19,if_neg h19]
 obtain rfl:o=20:=by omega
 rcases ss with _ | ⟨a,_ | ⟨b,l⟩⟩<;>simp[AH] at hc
 ·simp[Aa]
 ·omega
namespace Tf
def info:Nat->Tf->List (Int×Int×Int)
 |_,nil=>[]
 |p,cons n k r=>((if 0∈srt k then 0 else AQ n (op1 k) (srt k)),((dep k+1:Nat):Int),((p+1+size k:Nat):Int))::(info (p+1) k++info (p+1+size k) r)
def rts:Nat->Tf->List Int
 |_,nil=>[]
 |p,cons _ k r=>rts (p+1+size k) r++[(p:Int)]
def rtf:Nat->Tf->List Int
 |_,nil=>[]
 |p,cons _ k r=>(p:Int)::rtf (p+1+size k) r
theorem Ev (f:Tf):∀ p,(info p f).length=f.size:=by
 induction f with
 |nil=>intro p;rfl
 |cons n k r ik ir=>intro p;simp only[info,size,qY11,qZ6,ik,ir]
theorem WI (f g:Tf):∀ p,info p (f.app g)=info p f++info (p+f.size) g:=by
 induction f with
 |nil=>intro p;simp[app,info,size]
 |cons n k r _ ir=>
  intro p
  have e:p+1+size k+size r=p+(size k+size r+1):=by omega
  simp only[app,info,size,ir,qY5,qZ1,e]
theorem ABz (f g:Tf):∀ p,rts p (f.app g)=rts (p+f.size) g++rts p f:=by
 induction f with
 |nil=>intro p;simp[app,rts,size]
 |cons n k r _ ir=>
  intro p
  have e:p+1+size k+size r=p+(size k+size r+1):=by omega
  simp only[app,rts,size,ir,qZ1,e]
theorem Gm (f:Tf):∀ p,(rts p f).length=f.len:=by
 induction f with
 |nil=>intro p;rfl
 |cons n k r _ ir=>intro p;simp[rts,len,ir]
theorem AGW (f:Tf):∀ p,(rts p f).reverse=rtf p f:=by
 induction f with
 |nil=>intro p;rfl
 |cons n k r _ ir=>intro p;simp[rts,rtf,ir]
end Tf
open Tf
theorem AAU {α β γ:Type} (f:β->γ->Option γ) (g:α->β):∀ (l:List α) (y:γ),foldO (fun a y=>f (g a) y) l y=foldO f (l.map g) y:=by
 intro l
 induction l with
 |nil=>intro y;rfl
 |cons a l ih=>intro y;simp only[foldO,List.map_cons];congr 1;funext z;exact ih z
theorem AIV {β:Type} (f:Int->β->Option β) (l:List Int) (y:β):foldO (fun (p:Int×Nat) y=>f p.1 y) l.zipIdx.reverse y=foldO f l.reverse y:=by
 rw[AAU f (fun p:Int×Nat=>p.1),List.map_reverse]
 congr 2
 exact List.zipIdx_map_fst 0 l
theorem Ff {α:Type} {l r:List α} {p:Nat} {x d:α} (h:l.drop p=x::r):l.getD p d=x/\p < l.length:=by
 have h0:(l.drop p)[0]?=some x:=by rw[h];rfl
 rw[List.getElem?_drop] at h0
 have e:p+0=p:=by omega
 rw[e] at h0
 exact ⟨by rw[qZ4,h0];rfl,(List.getElem?_eq_some_iff.1 h0).1⟩
abbrev Vo:=((List Ac)×List (Int×Bt))×(Int×Bt)×(List Int)×Unit
def K2 (v:Int) (y:Vo):Option Vo:=(JX v 0 y).bind fun o=>some (IN y o)
theorem ADX (t:List Ac) (P:List (Int×Bt)) (hP:P.length<=20000):∀ (k:Tf) (p:Nat) (s0:Int) (d0:Nat) (ss:List Int),(∃ rest,P.drop p=info p k++rest)->1<=d0->d0<=100000->ss.length+k.len<=100000->
 foldO K2 (rtf p k) ((t,P),(s0,(d0:Int),(p:Int)),ss,())=some ((t,P),(s0,((max d0 (k.dep+1):Nat):Int),((p+k.size:Nat):Int)),ss++k.srt,()):=by
 intro k
 induction k with
 |nil=>
  intro p s0 d0 ss _ h1 _ _
  have e:max d0 (dep nil+1)=d0:=by simp only[dep];omega
  simp only[rtf,foldO,srt,qY4,size,Nat.add_zero,e]
 |cons n k r ik ir=>
  intro p s0 d0 ss ⟨rest,hr⟩ h1 h2 h3
  simp only[info,qY5] at hr
  obtain ⟨g1,g2⟩:=Ff (d:=((0:Int),(0:Int),(0:Int))) hr
  have hz:size k+size r+1<=P.length:=by
   have:=congrArg List.length hr
   simp only[List.length_drop,qY11,qZ6,Ev] at this
   omega
  have hdk:=WO k
  have hdr:=WO r
  have hlr:=Es r
  simp only[len] at h3
  simp only[rtf,foldO]
  have hstep:K2 (p:Int) ((t,P),(s0,(d0:Int),(p:Int)),ss,())=some ((t,P),(s0,((max d0 (k.dep+2):Nat):Int),((p+1+size k:Nat):Int)),ss++[if 0∈srt k then 0 else AQ n (op1 k) (srt k)],()):=by
   unfold K2 JX IN
   simp only
   rw[qZ0,g1]
   rw[Ak,Ab,Ab,Ab g2,Ab (by simp[Av];omega),Ak,Ab,Ab,Ab g2,Ak,Ab,Ab,Ab g2,Ad]
   rw[Aw (x:=((dep k+1:Nat):Int)+1) (by omega)]
   have:BS (d0:Int) (((dep k+1:Nat):Int)+1)=((max d0 (k.dep+2):Nat):Int):=by rw[MH];split<;>omega
   rw[this]
  rw[hstep,Option.bind_some]
  rw[ir (p+1+size k) s0 (max d0 (k.dep+2)) _ ⟨rest,by
   have:=congrArg (List.drop (1+size k)) hr
   rw[List.drop_drop] at this
   have e:p+(1+size k)=p+1+size k:=by omega
   rw[e] at this
   rw[this,Nat.add_comm 1,List.drop_succ_cons,qZ1,List.drop_append_of_le_length (by rw[Ev];omega)]
   have:(info (p+1) k).drop (size k)=[]:=qY7 (by rw[Ev];omega)
   rw[this,qY15]⟩ (by omega) (by omega) (by simp;omega)]
  have e1:max (max d0 (k.dep+2)) (r.dep+1)=max d0 ((cons n k r).dep+1):=by simp only[dep];omega
  have e2:p+1+size k+size r=p+(cons n k r).size:=by simp only[size];omega
  rw[e1,e2]
  simp only[srt,qZ1,qY5,qY15]
theorem ACO (n:Ac) (f:Int) (ss:List Int):AQ n f ss=if nOp n=15/\f≠3 then 0 else AQ n 3 ss:=by
 unfold AQ
 by_cases h:nOp n=15
 ·by_cases hf:f=3
  ·simp[h,hf]
  ·simp[h,hf]
 ·simp[h]
theorem AKS:∀ (i:Nat) {t:List Ac} {f:Tf},bkp t=some f->∃ g,bkp (t.drop i)=some g:=by
 intro i
 induction i with
 |zero=>intro t f h;exact ⟨f,by simpa using h⟩
 |succ i ih=>
  intro t f h
  cases t with
  |nil=>exact ⟨nil,by simp[bkp]⟩
  |cons n l=>
   simp only[bkp,Option.bind_eq_some_iff] at h
   obtain ⟨g,hg,_⟩:=h
   simpa using ih hg
def D4 (t:List Ac):Prop:=∀ n∈t,(Bg n).length<=100000
theorem AH2 {t:List Ac} (hs:D4 t) (hl:t.length<=20000) {i:Nat} (hi:i < t.length) {F:Tf} {P:List (Int×Bt)} (hF:bkp (t.drop (i+1))=some F) (hP:P.length=t.length) (hPi:P.drop (i+1)=info (i+1) F) :
 (bkp (t.drop i)=none/\∃ v,GX (t,(none:Option Bf),false,(t,P),rts (i+1) F,(i:Int),())=some (.ret,(t,(none:Option Bf),false,v,rts (i+1) F,(i:Int),())))\/
 ∃ G P',bkp (t.drop i)=some G/\P'.length=t.length/\P'.drop i=info i G/\GX (t,(none:Option Bf),false,(t,P),rts (i+1) F,(i:Int),())=some (.normal,(t,(none:Option Bf),false,(t,P'),rts i G,(i:Int) - 1,())):=by
 obtain ⟨hf1,hf2,hf3⟩:=Qz hF
 have hsz:F.size=t.length - (i+1):=by rw[<-BN,hf1,List.length_drop]
 have hfl:=Es F
 have hget:t.getD i Az=t[i]:=by simp[qZ4,hi]
 have hmem:t[i]∈t:=List.getElem_mem hi
 have hbp:bkp (t.drop i)=if Cv t[i]=true/\A7 t[i]<=(F.len:Int)/\(0:Int)≠AQ t[i] (op1 (take (A7 t[i]).toNat F)) (take (A7 t[i]).toNat F).srt then some (cons t[i] (take (A7 t[i]).toNat F) (drop (A7 t[i]).toNat F)) else none:=by
  rw[qY6 hi]
  simp only[bkp,hF,Option.bind_some]
 have hnum:=hs _ hmem
 have hfe:=AK9 (n:=t[i]) (by omega)
 unfold GX
 simp only
 rw[As,Ak,Ab,Ab,qZ0,hget]
 generalize hn:t[i]=n at hbp hnum hfe ⊢
 have hK:n.2.2.2.2=A7 n:=rfl
 have hO:n.1=nOp n:=rfl
 rw[hK,hO,Gm]
 by_cases q1:A7 n < 0
 ·rw[As q1]
  refine .inl ⟨?_,_,rfl⟩
  rw[hbp,if_neg]
  rintro ⟨h,_⟩
  unfold Cv at h
  simp only[qY0] at h
  have:=OU h.2
  omega
 rw[Ax q1]
 by_cases q2:A7 n > (F.len:Int)
 ·rw[As q2]
  exact .inl ⟨by rw[hbp,if_neg (by omega)],_,rfl⟩
 rw[Ax q2,hfe,Ad]
 by_cases q3:Bq n=false
 ·rw[q3]
  refine .inl ⟨?_,_,rfl⟩
  rw[hbp,if_neg]
  rintro ⟨h,_⟩
  unfold Cv at h
  rw[q3] at h
  cases h
 rw[Bool.not_eq_false] at q3
 rw[q3]
 simp only[qY2,AA]
 rw[AAc (by omega),Ad]
 by_cases q4:AH (nOp n) (A7 n)=false
 ·rw[q4]
  refine .inl ⟨?_,_,rfl⟩
  rw[hbp,if_neg]
  rintro ⟨h,_⟩
  unfold Cv at h
  rw[q4,Bool.and_false] at h
  cases h
 rw[Bool.not_eq_false] at q4
 rw[q4]
 simp only[qY2,AA]
 have hok:Cv n=true:=by unfold Cv;rw[q3,q4];rfl
 obtain ⟨c,hc⟩:∃ c:Nat,A7 n=(c:Int):=⟨(A7 n).toNat,by omega⟩
 have hct:(A7 n).toNat=c:=by omega
 rw[hct] at hbp
 have hFe:=SB c F
 have hkl:=S4 c F (by omega)
 generalize hk:take c F=k at hbp hFe hkl
 generalize hr:drop c F=r at hbp hFe
 have hlen:F.len=k.len+r.len:=by rw[<-hFe,Qu]
 have hsize:F.size=k.size+r.size:=by rw[<-hFe,MI]
 have hrl:r.len=F.len - c:=by omega
 have hR:rts (i+1) F=rts (i+1+k.size) r++rts (i+1) k:=by rw[<-hFe,ABz]
 have hw:qI ((F.len:Int) - A7 n)=(r.len:Int):=by rw[Aw];omega
 have hRd:(rts (i+1) F).drop r.len=rts (i+1) k:=by
  rw[hR,List.drop_append_of_le_length (by rw[Gm];omega),qY7 (by rw[Gm];omega),qY15]
 have hRt:(rts (i+1) F).take r.len=rts (i+1+k.size) r:=by
  rw[hR,List.take_append_of_le_length (by rw[Gm];omega),List.take_of_length_le (by rw[Gm];omega)]
 have hRdt:((rts (i+1) F).drop r.len).take (F.len - r.len)=rts (i+1) k:=by
  rw[hRd,List.take_of_length_le (by rw[Gm];omega)]
 have hfold:=ADX t P (by omega) k (i+1) 0 1 [] ⟨info (i+1+k.size) r,by rw[hPi,<-hFe,WI]⟩ (by omega) (by omega) (by simp;omega)
 rw[hw,qZ0,hRdt]
 rw[Ak,Ab,Ab,Ab (by rw[Gm];simp only[Av];omega)]
 have hidx:foldO (fun (p:Int×Nat) y=>(JX p.1 p.2 y).bind fun o=>some (IN y o)) (rts (i+1) k).zipIdx.reverse ((t,P),((0:Int),1,qI ((i:Int)+1)),([]:List Int),())=foldO K2 (rtf (i+1) k) ((t,P),((0:Int),((1:Nat):Int),((i+1:Nat):Int)),([]:List Int),()):=by
  rw[<-AGW,<-AIV K2]
  rw[Aw]
  rfl
 rw[hidx,hfold,Ad,Ad]
 unfold Ni
 simp only[qY15]
 have hss:k.srt.length=c:=by rw[DN];exact hkl
 have hop:1<=nOp n/\nOp n<=20:=by
  unfold Bq at q3
  split at q3
  ·omega
  ·split at q3
   ·omega
   ·split at q3
    ·omega
    ·simp only[qY0,decide_eq_true_eq] at q3
     exact q3.1.1.1
 rw[AGm hop (by omega) (by rw[hss,<-hc];exact q4),Ad]
 have hfirst:=ACO n (op1 k) k.srt
 by_cases q5:AQ n 3 k.srt=0
 ·rw[Aq q5]
  refine .inl ⟨?_,_,rfl⟩
  rw[hbp,if_neg]
  rintro ⟨_,_,h⟩
  rw[hfirst,q5] at h
  split at h<;>exact h rfl
 rw[Ag q5]
 have hwi:qI ((i:Int)+1)=((i+1:Nat):Int):=by rw[Aw];omega
 have hwm:qI ((i:Int) - 1)=(i:Int) - 1:=Aw
 have hgood:∀ (hx:¬ (nOp n=15/\op1 k≠3)),bkp (t.drop i)=some (cons n k r)/\(P.set i (AQ n 3 k.srt,((max 1 (k.dep+1):Nat):Int),((i+1+k.size:Nat):Int))).drop i=info i (cons n k r):=by
  intro hx
  rw[if_neg hx] at hfirst
  refine ⟨by rw[hbp,if_pos ⟨hok,by omega,by rw[hfirst];exact fun e=>q5 e.symm⟩],?_⟩
  have h0:(0:Int)∉k.srt:=fun h=>hf3 (by rw[<-hFe,Ji,qZ7];exact .inl h)
  rw[qY6 (by simp;omega)]
  simp only[info]
  rw[if_neg h0,hfirst,List.getElem_set_self,List.drop_set_of_lt (by omega),hPi,<-hFe,WI]
  have e:max 1 (k.dep+1)=k.dep+1:=by omega
  rw[e]
 have hlt:P.length=t.length:=hP
 by_cases q6:nOp n=15
 ·rw[Aq q6,hwi,Ak,Ab]
  have hk2:0 < k.len:=by
   have:AH 15 (A7 n)=decide (A7 n=2):=rfl
   rw[q6,this,decide_eq_true_eq] at q4
   omega
  have hkne:∃ n1 k1 r1,k=cons n1 k1 r1:=by
   cases k with
   |nil=>simp[len] at hk2
   |cons n1 k1 r1=>exact ⟨n1,k1,r1,rfl⟩
  obtain ⟨n1,k1,r1,hke⟩:=hkne
  have hd:t.drop (i+1)=n1::(k1.flat++r1.flat++r.flat):=by
   rw[<-hf1,<-hFe,hke]
   simp only[app,flat,JK,qZ1]
  obtain ⟨g1,g2⟩:=Ff (d:=Az) hd
  have ho1:op1 k=n1.1:=by rw[hke];rfl
  rw[Ab,qZ0,g1]
  by_cases q7:n1.1=3
  ·rw[Bm q7]
   obtain ⟨b1,b2⟩:=hgood (fun h=>h.2 (by rw[ho1];exact q7))
   refine .inr ⟨_,_,b1,by simp[hP],b2,?_⟩
   rw[Ak,Ab,Ab,Ab,Ak,Ab,Ab,Ab (by simp[Av];omega),hRt,hwm]
   rfl
  ·rw[Bu q7]
   refine .inl ⟨?_,_,rfl⟩
   rw[hbp,if_neg]
   rintro ⟨_,_,h⟩
   rw[hfirst,if_pos ⟨q6,by rw[ho1];exact q7⟩] at h
   exact h rfl
 ·rw[Ag q6]
  obtain ⟨b1,b2⟩:=hgood (fun h=>q6 h.1)
  refine .inr ⟨_,_,b1,by simp[hP],b2,?_⟩
  rw[Ak,Ab,Ab,Ab,Ak,Ab,Ab,Ab (by simp[Av];omega),hRt,hwm]
  rfl
theorem AEL {t:List Ac} (hs:D4 t) (hl:t.length<=20000):∀ (j:Nat),j<=t.length->∀ (F:Tf) (P:List (Int×Bt)),bkp (t.drop j)=some F->P.length=t.length->P.drop j=info j F->
 (bkp t=none/\∃ v,Am GX (t,(none:Option Bf),false,(t,P),rts j F,(j:Int) - 1,())=some (.ret,(t,(none:Option Bf),false,v)))\/
 ∃ G,bkp t=some G/\Am GX (t,(none:Option Bf),false,(t,P),rts j F,(j:Int) - 1,())=some (.exit 0,(t,(none:Option Bf),false,(t,info 0 G),rts 0 G,-1,())):=by
 intro j
 induction j with
 |zero=>
  intro _ F P hF hP hPi
  refine .inr ⟨F,by simpa using hF,AY ?_ (by simp)⟩
  unfold GX
  simp only
  rw[Ax]
  have e:P=info 0 F:=by simpa using hPi
  rw[e]
  rfl
 |succ j ih=>
  intro hj F P hF hP hPi
  have e:(((j+1:Nat):Int) - 1)=(j:Int):=by omega
  rw[e]
  rcases AH2 hs hl (i:=j) (by omega) hF hP hPi with ⟨h1,v,h2⟩ | ⟨G,P',h1,h2,h3,h4⟩
  ·refine .inl ⟨?_,_,AY h2 (by simp)⟩
   cases hb:bkp t with
   |none=>rfl
   |some f=>
    obtain ⟨g,hg⟩:=AKS j hb
    rw[h1] at hg;cases hg
  ·rw[AZ h4]
   exact ih (by omega) G P' h1 h2 h3
theorem ALK {t:List Ac} (hs:D4 t) (hl:t.length<=20000):M_ t=some ((match bkp t with | none=>(none,false,()) | some F=>(some (t,info 0 F),decide (F.len=1),())),()):=by
 unfold M_
 have h:=AEL hs hl t.length (Nat.le_refl _) nil (List.replicate t.length ((0:Int),(0:Int),(0:Int))) (by simp[bkp]) (by simp) (by simp[info])
 rw[Ak,Ak,Ab,Ab,Ab (by simp only[Av];omega),qZ0,Aw]
 simp only[rts] at h
 rcases h with ⟨h1,v,h2⟩ | ⟨G,h1,h2⟩
 ·rw[h2,h1]
  simp only[Ad,Bk,Bl,Ap,AA]
 ·rw[h2,h1]
  simp only[Ad,AX,Ap,Gm]
  have e:((G.len:Int)==1)=decide (G.len=1):=by
   have e:((G.len:Int)==1)=decide ((G.len:Int)=1):=rfl
   rw[e,decide_eq_decide];omega
  rw[e]
end Go.AM.Num
end
section
namespace Go.AM.Num
theorem HP {α:Type} (s:qBs) (x:α):∀ l,AK s (BQ s x l)=some x:=by
 intro l
 induction l with
 |nil=>simp[BQ,AK]
 |cons a l ih=>
  obtain ⟨k,y⟩:=a
  simp only[BQ]
  by_cases h:k=s
  ·rw[show (k==s)=true by simpa using h];simp[AK,h]
  ·have hk:(k==s)=false:=by simpa using h
   rw[hk];simp[AK,hk,ih]
theorem HM {α:Type} {s t:qBs} (h:t≠s) (x:α):∀ l,AK t (BQ s x l)=AK t l:=by
 intro l
 have h2:(s==t)=false:=by simpa using fun e=>h e.symm
 induction l with
 |nil=>simp[BQ,AK,h2]
 |cons a l ih=>
  obtain ⟨k,y⟩:=a
  simp only[BQ]
  by_cases hk:k=s
  ·subst hk;simp[AK,h2]
  ·rw[show (k==s)=false by simpa using hk]
   simp only[AA,AK,ih]
namespace Tf
def subs:Tf->List (Ac×Tf)
 |nil=>[]
 |cons n k r=>(n,k)::(subs k++subs r)
theorem GU (f:Tf):f.subs.length=f.size:=by
 induction f with
 |nil=>rfl
 |cons n k r ik ir=>simp only[subs,size,qY11,qZ6,ik,ir]
theorem S8 (f:Tf):∀ (o p:Nat),p < f.size->∃ n k x rest rest2,f.subs[p]?=some (n,k)/\f.flat.drop p=n::(k.flat++rest)/\(info o f).drop p=x::(info (o+p+1) k++rest2):=by
 induction f with
 |nil=>intro o p h;simp[size] at h
 |cons n k r ik ir=>
  intro o p h
  cases p with
  |zero=>exact ⟨n,k,((if 0∈srt k then 0 else AQ n (op1 k) (srt k)),((dep k+1:Nat):Int),((o+1+size k:Nat):Int)),flat r,info (o+1+size k) r,rfl,rfl,rfl⟩
  |succ p=>
   simp only[size] at h
   by_cases hp:p < k.size
   ·obtain ⟨n',k',x,rest,rest2,h1,h2,h3⟩:=ik (o+1) p hp
    refine ⟨n',k',x,rest++r.flat,rest2++info (o+1+k.size) r,?_,?_,?_⟩
    ·simp only[subs,List.getElem?_cons_succ]
     rw[qY8 (by rw[GU];exact hp)]
     exact h1
    ·simp only[flat,List.drop_succ_cons]
     rw[List.drop_append_of_le_length (by rw[BN];omega),h2]
     simp
    ·simp only[info,List.drop_succ_cons]
     rw[List.drop_append_of_le_length (by rw[Ev];omega),h3]
     have e:o+1+p+1=o+(p+1)+1:=by omega
     simp[e]
   ·obtain ⟨n',k',x,rest,rest2,h1,h2,h3⟩:=ir (o+1+k.size) (p - k.size) (by omega)
    refine ⟨n',k',x,rest,rest2,?_,?_,?_⟩
    ·simp only[subs,List.getElem?_cons_succ]
     rw[qY9 (by rw[GU];omega),GU]
     exact h1
    ·simp only[flat,List.drop_succ_cons]
     rw[List.drop_append,BN,qY7 (by rw[BN];omega),h2]
     rfl
    ·simp only[info,List.drop_succ_cons]
     rw[List.drop_append,Ev,qY7 (by rw[Ev];omega),h3]
     have e:o+1+k.size+(p - k.size)+1=o+(p+1)+1:=by omega
     simp[e]
theorem XJ {f:Tf} (hw:f.wf=true) (hs:(0:Int)∉f.srt):∀ {n:Ac} {k:Tf},(n,k)∈f.subs->Cv n=true/\A7 n=(k.len:Int)/\k.wf=true/\(0:Int)∉k.srt:=by
 induction f with
 |nil=>intro n k h;simp[subs] at h
 |cons m a b ia ib=>
  intro n k h
  obtain ⟨h1,h2,h3,h4⟩:=CF.1 hw
  obtain ⟨s1,s2,s3⟩:=EF.1 hs
  simp only[subs,qY12,qZ7,Prod.mk.injEq] at h
  rcases h with ⟨rfl,rfl⟩ | h | h
  ·exact ⟨h1,h2,h3,s1⟩
  ·exact ia h3 s1 h
  ·exact ib h4 s3 h
theorem NG {f:Tf}:∀ {n:Ac} {k:Tf},(n,k)∈f.subs->k.size < f.size:=by
 induction f with
 |nil=>intro n k h;simp[subs] at h
 |cons m a b ia ib=>
  intro n k h
  simp only[subs,qY12,qZ7,Prod.mk.injEq] at h
  simp only[size]
  rcases h with ⟨rfl,rfl⟩ | h | h
  ·omega
  ·have:=ia h;omega
  ·have:=ib h;omega
end Tf
open Tf
theorem AE5 (t:List Ac) (P:List (Int×Bt)) (hP:P.length<=20000):∀ (k:Tf) (p:Nat) (out:List Int) (idx:Nat) (K:Int),(∃ rest,P.drop p=info p k++rest)->((idx+k.len:Nat):Int)=K->out.length+k.len<=100000->idx+k.len<=100000->
 Am KO (some (t,P),out,(p:Int),K,(idx:Int),())=some (.exit 0,(some (t,P),out++rtf p k,((p+k.size:Nat):Int),K,K,())):=by
 intro k
 induction k with
 |nil=>
  intro p out idx K _ h1 _ _
  simp only[len,Nat.add_zero] at h1
  subst h1
  refine AY ?_ (by simp)
  unfold KO
  simp only
  rw[Ax]
  simp[rtf,size]
 |cons n k r ik ir=>
  intro p out idx K ⟨rest,hr⟩ h1 h2 h3
  simp only[info,qY5] at hr
  obtain ⟨g1,g2⟩:=Ff (d:=((0:Int),(0:Int),(0:Int))) hr
  simp only[len] at h1 h2 h3
  have hr':P.drop (p+1+size k)=info (p+1+size k) r++rest:=by
   have:=congrArg (List.drop (1+size k)) hr
   rw[List.drop_drop] at this
   have e:p+(1+size k)=p+1+size k:=by omega
   rw[e] at this
   rw[this,Nat.add_comm 1,List.drop_succ_cons,qZ1,List.drop_append_of_le_length (by rw[Ev];omega)]
   have:(info (p+1) k).drop (size k)=[]:=qY7 (by rw[Ev];omega)
   rw[this,qY15]
  rw[AZ (y:=(some (t,P),out++[(p:Int)],((p+1+size k:Nat):Int),K,((idx+1:Nat):Int),())) (by
   unfold KO
   simp only[Option.isSome_some,Option.getD_some]
   rw[As,qZ0,g1]
   rw[Ab (by simp[Av];omega),DZ,Ak,Ab,Ab,Aw (x:=(idx:Int)+1) (by omega)]
   rfl)]
  rw[ir (p+1+size k) _ (idx+1) K ⟨rest,hr'⟩ (by omega) (by simp;omega) (by omega)]
  have e2:p+1+size k+size r=p+(cons n k r).size:=by simp only[size];omega
  rw[e2]
  simp only[rtf,qZ1,qY5,qY15]
theorem AKD {t:List Ac} {P:List (Int×Bt)} (hP:P.length<=20000) {p:Nat} {n:Ac} {k:Tf} {rest:List (Int×Bt)} (hp:p < t.length) (ht:t.getD p Az=n) (hn:A7 n=(k.len:Int)) (hd:P.drop (p+1)=info (p+1) k++rest) (hk:k.size<=20000) (hpl:p<=20000) :
 KX (some (t,P)) (p:Int)=some ((rtf (p+1) k,()),()):=by
 have hkl:=Es k
 unfold KX
 simp only[Option.isSome_some,Option.getD_some]
 rw[DZ,Ak,Ab,Ab,qZ0,ht,Aw]
 have hK:n.2.2.2.2=(k.len:Int):=hn
 have:=AE5 t P hP k (p+1) [] 0 (k.len:Int) ⟨rest,hd⟩ (by simp) (by simp;omega) (by omega)
 rw[hK]
 have e:((p+1:Nat):Int)=(p:Int)+1:=by omega
 rw[e] at this
 rw[show ((0:Nat):Int)=0 from rfl] at this
 rw[this]
 simp only[Ad,AX,Ap,qY15]
theorem AEt (t:List Ac) (P:List (Int×Bt)) (hP:P.length<=20000) (t4:qBs×Af) (nm:qBs) (s:Int):∀ (k:Tf) (p:Nat) (args pre:List Int),(∃ rest,P.drop p=info p k++rest)->args.length+k.len<=100000->pre.length+k.len<=100000->
 Am t_view_signature_s3 (some (t,P),t4,(nm,args,s),pre++rtf p k,((pre++rtf p k).length:Int),(pre.length:Int),())=some (.exit 0,(some (t,P),t4,(nm,args++k.srt,s),pre++rtf p k,((pre++rtf p k).length:Int),((pre++rtf p k).length:Int),())):=by
 intro k
 induction k with
 |nil=>
  intro p args pre _ _ _
  refine AY ?_ (by simp)
  unfold t_view_signature_s3
  simp only[rtf,qY4]
  rw[Ax]
  simp[srt]
 |cons n k r ik ir=>
  intro p args pre ⟨rest,hr⟩ h2 h3
  simp only[info,qY5] at hr
  obtain ⟨g1,g2⟩:=Ff (d:=((0:Int),(0:Int),(0:Int))) hr
  simp only[len] at h2 h3
  have hr':P.drop (p+1+size k)=info (p+1+size k) r++rest:=by
   have:=congrArg (List.drop (1+size k)) hr
   rw[List.drop_drop] at this
   have e:p+(1+size k)=p+1+size k:=by omega
   rw[e] at this
   rw[this,Nat.add_comm 1,List.drop_succ_cons,qZ1,List.drop_append_of_le_length (by rw[Ev];omega)]
   have:(info (p+1) k).drop (size k)=[]:=qY7 (by rw[Ev];omega)
   rw[this,qY15]
  have ih:=ir (p+1+size k) (args++[if 0∈srt k then 0 else AQ n (op1 k) (srt k)]) (pre++[(p:Int)]) ⟨rest,hr'⟩ (by simp;omega) (by simp;omega)
  simp only[qZ1,qY5,qY15] at ih
  simp only[rtf,srt]
  rw[AZ (y:=(some (t,P),t4,(nm,args++[if 0∈srt k then 0 else AQ n (op1 k) (srt k)],s),pre++(p:Int)::rtf (p+1+size k) r,((pre++(p:Int)::rtf (p+1+size k) r).length:Int),((pre.length+1:Nat):Int),())) (by
   unfold t_view_signature_s3
   have e:(pre++(p:Int)::rtf (p+1+size k) r).getD pre.length 0=(p:Int):=by simp[qZ4]
   simp only[Option.isSome_some,Option.getD_some]
   rw[As (by simp;omega),Ak,Ab,Ab (by simp;omega),DZ,qZ0,e,Ak,Ab,Ab,qZ0,g1,Ab (by simp[Av];omega),Aw (x:=(pre.length:Int)+1) (by omega)]
   rfl)]
  have e2:(pre++[(p:Int)]).length=pre.length+1:=by simp
  rw[e2] at ih
  rw[ih]
theorem AJJ {t:List Ac} {P:List (Int×Bt)} (hP:P.length<=20000) {p:Nat} {n:Ac} {k:Tf} {rest:List (Int×Bt)} (hp:p < t.length) (ht:t.getD p Az=n) (hn:A7 n=(k.len:Int)) (hd:P.drop (p+1)=info (p+1) k++rest) (hk:k.size<=20000) (hpl:p<=20000) :
 Ny (some (t,P)) (p:Int)=some (((Bo n,k.srt,A3 n),()),()):=by
 have hkl:=Es k
 unfold Ny
 simp only[Option.isSome_some,Option.getD_some]
 rw[DZ,Ak,Ab,Ab,DZ,Ak,Ab,Ab,qZ0,ht,AKD hP hp ht hn hd hk hpl,Ad]
 have:=AEt t P hP (([]:qBs),([]:List Int),(0:Int)) n.2.2.1 n.2.1 k (p+1) [] [] ⟨rest,hd⟩ (by simp;omega) (by simp;omega)
 simp only[qY15,List.length_nil] at this
 rw[show ((0:Nat):Int)=0 from rfl] at this
 rw[this]
 simp only[Ad,AX,Ap]
abbrev Us:=qBs×Bool×List Int×Int
def CK (x:Ac×Tf):Option Us:=if nOp x.1=4 then some (Bo x.1,false,[],A3 x.1) else if nOp x.1=5 then some (Bo x.1,true,x.2.srt,A3 x.1) else none
def Dq (f:Tf):List Us:=f.subs.filterMap CK
def Du (us:List Us):Prop:=∀ a∈us,∀ b∈us,a.1=b.1->a=b
theorem Du.mono {us vs:List Us} (h:Du vs) (hs:∀ a∈us,a∈vs):Du us:=fun a ha b hb e=>h a (hs a ha) b (hs b hb) e
structure NI (us:List Us) (vars:List (qBs×Vr)) (funcs:List (qBs×qBs×Af)):Prop where
 cns:Du us
 w:∀ a∈us,(a.2.1=false/\a.2.2.1=[])\/a.2.1=true
 v:∀ nm x,AK nm vars=some x->x.1=nm/\(nm,false,[],x.2)∈us
 v':∀ nm s,(nm,false,[],s)∈us->(AK nm vars).isSome=true
 f:∀ nm x,AK nm funcs=some x->x.1=nm/\(nm,true,x.2.1,x.2.2)∈us
 f':∀ nm a s,(nm,true,a,s)∈us->(AK nm funcs).isSome=true
theorem NI.nil:NI [] [] []:=⟨fun a h=>absurd h qY16,fun a h=>absurd h qY16,fun nm x h=>(by simp[AK] at h),fun nm s h=>absurd h qY16,fun nm x h=>(by simp[AK] at h),fun nm a s h=>absurd h qY16⟩
theorem NI.fresh {us:List Us} {vars:List (qBs×Vr)} {funcs:List (qBs×qBs×Af)} (h:NI us vars funcs) {nm:qBs} (h1:AK nm vars=none) (h2:AK nm funcs=none):∀ a∈us,a.1≠nm:=by
 rintro ⟨m,b,l,s⟩ ha e
 simp only at e
 subst e
 rcases h.w _ ha with ⟨e1,e2⟩ | e1
 ·simp only at e1 e2;subst e1;subst e2
  have:=h.v' _ _ ha
  rw[h1] at this;cases this
 ·simp only at e1;subst e1
  have:=h.f' _ _ _ ha
  rw[h2] at this;cases this
theorem Pn {us:List Us} {u:Us} (h:Du us) (hu:∀ a∈us,a.1=u.1->a=u):Du (us++[u]):=by
 intro a ha b hb e
 rcases List.mem_append.1 ha with ha1 | ha1
 ·rcases List.mem_append.1 hb with hb1 | hb1
  ·exact h a ha1 b hb1 e
  ·rw[qZ8] at hb1
   rw[hb1] at e ⊢
   exact hu a ha1 e
 ·rw[qZ8] at ha1
  rw[ha1] at e ⊢
  rcases List.mem_append.1 hb with hb1 | hb1
  ·exact (hu b hb1 e.symm).symm
  ·rw[qZ8] at hb1;exact hb1.symm
theorem NI.addV {us:List Us} {vars:List (qBs×Vr)} {funcs:List (qBs×qBs×Af)} (h:NI us vars funcs) {nm:qBs} {s:Int} (h1:AK nm vars=none) (h2:AK nm funcs=none):NI (us++[(nm,false,[],s)]) (BQ nm (nm,s) vars) funcs:=by
 have hf:=h.fresh h1 h2
 refine ⟨Pn h.cns fun a ha e=>absurd e (hf a ha),fun a ha=>?_,fun m x hx=>?_,fun m x hx=>?_,fun m x hx=>?_,fun m a x hx=>?_⟩
 ·rcases List.mem_append.1 ha with ha | ha
  ·exact h.w a ha
  ·rw[qZ8] at ha;subst ha;exact .inl ⟨rfl,rfl⟩
 ·by_cases e:m=nm
  ·subst e;rw[HP] at hx;cases hx;exact ⟨rfl,by simp⟩
  ·rw[HM e] at hx
   obtain ⟨a1,a2⟩:=h.v m x hx
   exact ⟨a1,List.mem_append_left _ a2⟩
 ·by_cases e:m=nm
  ·subst e;rw[HP];rfl
  ·rw[HM e]
   rcases List.mem_append.1 hx with hx | hx
   ·exact h.v' m x hx
   ·rw[qZ8] at hx;cases hx;exact absurd rfl e
 ·obtain ⟨a1,a2⟩:=h.f m x hx
  exact ⟨a1,List.mem_append_left _ a2⟩
 ·rcases List.mem_append.1 hx with hx | hx
  ·exact h.f' m a x hx
  ·rw[qZ8] at hx;cases hx
theorem NI.addF {us:List Us} {vars:List (qBs×Vr)} {funcs:List (qBs×qBs×Af)} (h:NI us vars funcs) {nm:qBs} {l:List Int} {s:Int} (h1:AK nm vars=none) (h2:AK nm funcs=none):NI (us++[(nm,true,l,s)]) vars (BQ nm (nm,l,s) funcs):=by
 have hf:=h.fresh h1 h2
 refine ⟨Pn h.cns fun a ha e=>absurd e (hf a ha),fun a ha=>?_,fun m x hx=>?_,fun m x hx=>?_,fun m x hx=>?_,fun m a x hx=>?_⟩
 ·rcases List.mem_append.1 ha with ha | ha
  ·exact h.w a ha
  ·rw[qZ8] at ha;subst ha;exact .inr rfl
 ·obtain ⟨a1,a2⟩:=h.v m x hx
  exact ⟨a1,List.mem_append_left _ a2⟩
 ·rcases List.mem_append.1 hx with hx | hx
  ·exact h.v' m x hx
  ·rw[qZ8] at hx;cases hx
 ·by_cases e:m=nm
  ·subst e;rw[HP] at hx;cases hx;exact ⟨rfl,by simp⟩
  ·rw[HM e] at hx
   obtain ⟨a1,a2⟩:=h.f m x hx
   exact ⟨a1,List.mem_append_left _ a2⟩
 ·by_cases e:m=nm
  ·subst e;rw[HP];rfl
  ·rw[HM e]
   rcases List.mem_append.1 hx with hx | hx
   ·exact h.f' m a x hx
   ·rw[qZ8] at hx;cases hx;exact absurd rfl e
theorem NI.again {us:List Us} {vars:List (qBs×Vr)} {funcs:List (qBs×qBs×Af)} (h:NI us vars funcs) {u:Us} (hu:u∈us):NI (us++[u]) vars funcs:=by
 have hm:∀ a,a∈us++[u] ↔ a∈us:=fun a=>by
  rw[qZ7,qZ8]
  exact ⟨fun h=>h.elim id fun e=>e ▸ hu,.inl⟩
 exact ⟨Pn h.cns fun a ha e=>h.cns a ha u hu e,fun a ha=>h.w a ((hm a).1 ha),fun m x hx=>⟨(h.v m x hx).1,(hm _).2 (h.v m x hx).2⟩,fun m s hx=>h.v' m s ((hm _).1 hx),fun m x hx=>⟨(h.f m x hx).1,(hm _).2 (h.f m x hx).2⟩,fun m a s hx=>h.f' m a s ((hm _).1 hx)⟩
end Go.AM.Num
end
section
namespace Go.AM.Num
open Tf
theorem ACg {a b:List Int} (ha:a.length<=2000000000):MQ a b=some ((decide (a=b),()),()):=by
 unfold MQ
 by_cases hl:a.length=b.length
 ·rw[Bm]
  have:=CN (step:=Ms) (fun k=>(a,b,false,(a.length:Int),(k:Int),())) (fun k=>(a,b,false,(a.length:Int),(k:Int),())) a.length (E:=.exit 0) (B:=.ret) (by simp) (by simp) (fun k=>decide (a.getD k 0=b.getD k 0)) (fun k hk=>by
   unfold Ms
   simp only
   rw[As,Ak,Ab,Ab,Ak,Ab,Ab,qZ0,Aw]
   by_cases h:a.getD k 0=b.getD k 0
   ·rw[Bm h,if_pos (qZ10 h)];rfl
   ·rw[Bu h,if_neg (fun e=>h (of_decide_eq_true e))]) (by
   unfold Ms
   simp only
   rw[Ax])
  rw[show ((0:Nat):Int)=0 from rfl] at this
  have heq:(List.range a.length).all (fun k=>decide (a.getD k 0=b.getD k 0))=decide (a=b):=by
   rw[Bool.eq_iff_iff,qY3,decide_eq_true_eq]
   constructor
   ·intro h
    refine List.ext_getElem hl fun k h1 h2=>?_
    have:=h k (List.mem_range.2 h1)
    simpa [qZ4,h1,h2] using this
   ·rintro rfl k _;simp
  rcases this with ⟨h1,h2⟩ | ⟨h1,k,h2⟩
  ·rw[h2,<-heq,h1];simp only[Ad,AX,Ap]
  ·rw[h2,<-heq,h1];simp only[Ad,Bk,Bl,Ap,AA]
 ·rw[Bu,qZ9 (fun e=>hl (by rw[e]))]
theorem US {f g:qBs×Af} (h:f.2.1.length<=2000000000):LP f g=some ((decide (f=g),()),()):=by
 obtain ⟨a,l,s⟩:=f
 obtain ⟨b,m,u⟩:=g
 simp only at h
 unfold LP
 simp only[ACg h,Ad]
 by_cases h1:a=b
 ·rw[show (a==b)=true by simpa using h1,Ap]
  by_cases h2:s=u
  ·rw[Aq h2];simp[h1,h2]
  ·rw[Ag h2,qZ9 (fun e=>h2 (by cases e;rfl))]
 ·rw[show (a==b)=false by simpa using h1,AA,qZ9 (fun e=>h1 (by cases e;rfl))]
section
variable {F:Tf} {t:List Ac} {P:List (Int×Bt)}
abbrev C2 (F:Tf) (p:Nat):List Us:=(F.subs.take p).filterMap CK
theorem Ot {p:Nat}:∀ a∈C2 F p,a∈Dq F:=by
 intro a ha
 simp only[C2,Dq,List.mem_filterMap] at ha ⊢
 obtain ⟨x,h1,h2⟩:=ha
 exact ⟨x,List.mem_of_mem_take h1,h2⟩
theorem WB {p:Nat} {n:Ac} {k:Tf} (h:F.subs[p]?=some (n,k)):C2 F (p+1)=C2 F p++(CK (n,k)).toList:=by
 simp only[C2,List.take_add_one,h,Option.toList_some,List.filterMap_append]
 cases hu:CK (n,k)<;>simp[hu]
def vAdd (l:List Vr) (x:Ac×Tf):List Vr:=if nOp x.1=4/\∀ y∈l,y.1≠Bo x.1 then l++[(Bo x.1,A3 x.1)] else l
def fAdd (m:List (qBs×Af)) (x:Ac×Tf):List (qBs×Af):=if nOp x.1=5/\∀ y∈m,y.1≠Bo x.1 then m++[(Bo x.1,x.2.srt,A3 x.1)] else m
def OD (F:Tf) (p:Nat):List Vr:=(F.subs.take p).foldl vAdd []
def M9 (F:Tf) (p:Nat):List (qBs×Af):=(F.subs.take p).foldl fAdd []
def MT (F:Tf):List Vr:=F.subs.foldl vAdd []
def OE (F:Tf):List (qBs×Af):=F.subs.foldl fAdd []
def KL {α β:Type} (l:List (qBs×β)) (vars:List (qBs×α)):Prop:=∀ nm,AK nm vars=none ↔ ∀ y∈l,y.1≠nm
theorem KL.nil {α β:Type}:KL ([]:List (qBs×β)) ([]:List (qBs×α)):=fun nm=>⟨fun _ y hy=>absurd hy qY16,fun _=>rfl⟩
theorem KL.add {α β:Type} {l:List (qBs×β)} {vars:List (qBs×α)} (h:KL l vars) (nm:qBs) (y:α) (z:β):KL (l++[(nm,z)]) (BQ nm y vars):=fun x=>by
 by_cases e:x=nm
 ·subst e
  rw[HP]
  constructor
  ·intro h;cases h
  ·intro h';exact absurd rfl (h' (x,z) (by simp))
 ·rw[HM e,h x]
  constructor
  ·intro h' w hw
   rcases List.mem_append.1 hw with hw | hw
   ·exact h' w hw
   ·rw[List.mem_singleton.1 hw];exact fun e'=>e e'.symm
  ·exact fun h' w hw=>h' w (List.mem_append_left _ hw)
theorem KL.some {α β:Type} {l:List (qBs×β)} {vars:List (qBs×α)} (h:KL l vars) {nm:qBs} {x:α} (hx:AK nm vars=some x):¬ ∀ y∈l,y.1≠nm:=fun h'=>by rw[(h nm).2 h'] at hx;cases hx
theorem ADW (hF:F.flat=t) (hw:F.wf=true) (hs:(0:Int)∉F.srt) (hz:F.size<=20000) (hP:P=info 0 F) {p:Nat} (hp:p < F.size) {vars:List (qBs×Vr)} {funcs:List (qBs×qBs×Af)} {l0:List Vr} {m0:List (qBs×Af)}
 (hI:NI (C2 F p) vars funcs) (hl:l0.length<=p) (hm:m0.length<=p) :
 (¬ Du (C2 F (p+1))/\∃ x,GO (some (t,P),([]:List Vr),([]:List (qBs×Af)),false,vars,funcs,l0,m0,t,(t.length:Int),(p:Int),())=some (.ret,(some (t,P),([]:List Vr),([]:List (qBs×Af)),false,x)))\/
 ∃ vars' funcs' l' m',NI (C2 F (p+1)) vars' funcs'/\l'.length<=p+1/\m'.length<=p+1/\GO (some (t,P),([]:List Vr),([]:List (qBs×Af)),false,vars,funcs,l0,m0,t,(t.length:Int),(p:Int),())=some (.normal,(some (t,P),([]:List Vr),([]:List (qBs×Af)),false,vars',funcs',l',m',t,(t.length:Int),((p+1:Nat):Int),()))/\
  ∀ x,F.subs[p]?=some x->KL l0 vars->KL m0 funcs->l'=vAdd l0 x/\m'=fAdd m0 x/\KL l' vars'/\KL m' funcs':=by
 obtain ⟨n,k,x,rest,rest2,h1,h2,h3⟩:=S8 F 0 p hp
 obtain ⟨g1,g2⟩:=Ff (d:=Az) h2
 have hmem:(n,k)∈F.subs:=qY14 h1
 obtain ⟨w1,w2,w3,w4⟩:=XJ hw hs hmem
 have hks:=NG hmem
 have htl:t.length=F.size:=by rw[<-hF,BN]
 have hPl:P.length=F.size:=by rw[hP,Ev]
 rw[hF] at g1
 have hd:P.drop (p+1)=info (p+1) k++rest2:=by
  have:=congrArg (List.drop 1) h3
  rw[List.drop_drop] at this
  rw[hP]
  simpa using this
 have hwp:qI ((p:Int)+1)=((p+1:Nat):Int):=by rw[Aw];rfl
 have hT:=WB h1
 unfold GO
 simp only
 rw[As,Ak,Ab,Ab,qZ0,g1,hwp]
 by_cases e4:n.1=4
 ·have hu:CK (n,k)=some (n.2.2.1,false,[],n.2.1):=by unfold CK;rw[if_pos e4]
  rw[hu] at hT
  rw[Aq e4]
  cases hv:AK n.2.2.1 vars with
  |none=>
   simp only[Option.isSome_none,qY1,Ap]
   rw[Ab (by simp[Av];omega)]
   cases hf:AK n.2.2.1 funcs with
   |none=>
    simp only[Option.isSome_none,AA]
    rw[Bm rfl]
    exact .inr ⟨_,_,_,_,by rw[hT];exact hI.addV hv hf,by simp;omega,by omega,rfl,fun x hx kv kf=>by
     obtain rfl:(n,k)=x:=by rw[h1] at hx;exact Option.some.inj hx
     exact ⟨by unfold vAdd;rw[if_pos ⟨e4,(kv _).1 hv⟩],by unfold fAdd;rw[if_neg (fun h=>by have h:=h.1;simp only[nOp] at h;omega)],kv.add _ _ _,kf⟩⟩
   |some g=>
    simp only[Option.isSome_some,Ap]
    refine .inl ⟨fun hc=>?_,_,rfl⟩
    obtain ⟨a1,a2⟩:=hI.f _ _ hf
    rw[hT] at hc
    have:=hc _ (List.mem_append_left _ a2) (n.2.2.1,false,[],n.2.1) (by simp) rfl
    simp at this
  |some y=>
   simp only[Option.isSome_some,qY2,AA,Option.getD_some]
   obtain ⟨b1,b2⟩:=hI.v _ _ hv
   cases hf:AK n.2.2.1 funcs with
   |none=>
    simp only[Option.isSome_none,AA]
    by_cases q:y.2=n.2.1
    ·rw[Bm q]
     rw[q] at b2
     exact .inr ⟨_,_,_,_,by rw[hT];exact hI.again b2,by omega,by omega,rfl,fun x hx kv kf=>by
      obtain rfl:(n,k)=x:=by rw[h1] at hx;exact Option.some.inj hx
      exact ⟨by unfold vAdd;rw[if_neg fun h=>kv.some hv h.2],by unfold fAdd;rw[if_neg (fun h=>by have h:=h.1;simp only[nOp] at h;omega)],kv,kf⟩⟩
    ·rw[Bu q]
     refine .inl ⟨fun hc=>?_,_,rfl⟩
     rw[hT] at hc
     have:=hc _ (List.mem_append_left _ b2) (n.2.2.1,false,[],n.2.1) (by simp) rfl
     simp at this
     exact q this
   |some g=>
    simp only[Option.isSome_some,Ap]
    refine .inl ⟨fun hc=>?_,_,rfl⟩
    obtain ⟨a1,a2⟩:=hI.f _ _ hf
    rw[hT] at hc
    have:=hc _ (List.mem_append_left _ a2) (n.2.2.1,false,[],n.2.1) (by simp) rfl
    simp at this
 ·rw[Ag e4]
  by_cases e5:n.1=5
  ·have hu:CK (n,k)=some (n.2.2.1,true,k.srt,n.2.1):=by unfold CK;rw[if_neg e4,if_pos e5]
   rw[hu] at hT
   rw[Aq e5,AJJ (by omega) (by omega) g1 w2 hd (by omega) (by omega),Ad]
   have hkl:k.srt.length<=2000000000:=by rw[DN];have:=Es k;omega
   simp only
   cases hf:AK n.2.2.1 funcs with
   |none=>
    simp only[Option.isSome_none,qY1,Ap]
    rw[Ab (by simp[Av];omega)]
    cases hv:AK n.2.2.1 vars with
    |none=>
     simp only[Option.isSome_none,AA]
     rw[US hkl,Ad,qZ10 rfl]
     simp only[qY2,AA]
     exact .inr ⟨_,_,_,_,by rw[hT];exact hI.addF hv hf,by omega,by simp;omega,rfl,fun x hx kv kf=>by
      obtain rfl:(n,k)=x:=by rw[h1] at hx;exact Option.some.inj hx
      exact ⟨by unfold vAdd;rw[if_neg fun h=>e4 h.1],by unfold fAdd;rw[if_pos ⟨e5,(kf _).1 hf⟩],kv,kf.add _ _ _⟩⟩
    |some y=>
     simp only[Option.isSome_some,Ap]
     refine .inl ⟨fun hc=>?_,_,rfl⟩
     obtain ⟨a1,a2⟩:=hI.v _ _ hv
     rw[hT] at hc
     have:=hc _ (List.mem_append_left _ a2) (n.2.2.1,true,k.srt,n.2.1) (by simp) rfl
     simp at this
   |some g=>
    simp only[Option.isSome_some,qY2,AA,Option.getD_some]
    obtain ⟨b1,b2⟩:=hI.f _ _ hf
    cases hv:AK n.2.2.1 vars with
    |none=>
     simp only[Option.isSome_none,AA]
     obtain ⟨gn,gl,gs⟩:=g
     simp only at b1 b2
     have hgl:gl.length<=2000000000:=by
      obtain ⟨⟨n',k'⟩,m1,m2⟩:=List.mem_filterMap.1 (Ot _ b2)
      unfold CK at m2
      split at m2
      ·simp at m2
      ·split at m2
       ·simp only[Option.some.injEq,Prod.mk.injEq] at m2
        rw[<-m2.2.2.1,DN]
        have:=NG m1;have:=Es k';omega
       ·cases m2
     rw[US hgl,Ad]
     by_cases q:(gn,gl,gs)=(Bo n,k.srt,A3 n)
     ·rw[qZ10 q]
      simp only[qY2,AA]
      simp only[Prod.mk.injEq] at q
      rw[q.2.1,q.2.2] at b2
      exact .inr ⟨_,_,_,_,by rw[hT];exact hI.again b2,by omega,by omega,rfl,fun x hx kv kf=>by
       obtain rfl:(n,k)=x:=by rw[h1] at hx;exact Option.some.inj hx
       exact ⟨by unfold vAdd;rw[if_neg fun h=>e4 h.1],by unfold fAdd;rw[if_neg fun h=>kf.some hf h.2],kv,kf⟩⟩
     ·rw[qZ9 q]
      simp only[qY1,Ap]
      refine .inl ⟨fun hc=>?_,_,rfl⟩
      rw[hT] at hc
      have:=hc _ (List.mem_append_left _ b2) (n.2.2.1,true,k.srt,n.2.1) (by simp) rfl
      simp only[Prod.mk.injEq,true_and] at this
      exact q (by rw[b1,this.1,this.2])
    |some y=>
     simp only[Option.isSome_some,Ap]
     refine .inl ⟨fun hc=>?_,_,rfl⟩
     obtain ⟨a1,a2⟩:=hI.v _ _ hv
     rw[hT] at hc
     have:=hc _ (List.mem_append_left _ a2) (n.2.2.1,true,k.srt,n.2.1) (by simp) rfl
     simp at this
  ·have hu:CK (n,k)=none:=by unfold CK;rw[if_neg e4,if_neg e5]
   rw[hu] at hT
   rw[Ag e5]
   exact .inr ⟨_,_,_,_,by rw[hT];simpa using hI,by omega,by omega,rfl,fun x hx kv kf=>by
    obtain rfl:(n,k)=x:=by rw[h1] at hx;exact Option.some.inj hx
    exact ⟨by unfold vAdd;rw[if_neg fun h=>e4 h.1],by unfold fAdd;rw[if_neg fun h=>e5 h.1],kv,kf⟩⟩
theorem AED (hF:F.flat=t) (hw:F.wf=true) (hs:(0:Int)∉F.srt) (hz:F.size<=20000) (hP:P=info 0 F):∀ (m p:Nat) (vars:List (qBs×Vr)) (funcs:List (qBs×qBs×Af)) (l0:List Vr) (m0:List (qBs×Af)),p+m=F.size->
 NI (C2 F p) vars funcs->l0.length<=p->m0.length<=p->l0=OD F p->m0=M9 F p->KL l0 vars->KL m0 funcs->
 (¬ Du (Dq F)/\∃ x,Am GO (some (t,P),([]:List Vr),([]:List (qBs×Af)),false,vars,funcs,l0,m0,t,(t.length:Int),(p:Int),())=some (.ret,(some (t,P),([]:List Vr),([]:List (qBs×Af)),false,x)))\/
 (Du (Dq F)/\∃ v f x,Am GO (some (t,P),([]:List Vr),([]:List (qBs×Af)),false,vars,funcs,l0,m0,t,(t.length:Int),(p:Int),())=some (.exit 0,(some (t,P),([]:List Vr),([]:List (qBs×Af)),false,v,f,MT F,OE F,x))):=by
 have htl:t.length=F.size:=by rw[<-hF,BN]
 intro m
 induction m with
 |zero=>
  intro p vars funcs l0 m0 hp hI _ _ hv hf _ _
  have e1:OD F p=MT F:=by unfold OD MT;rw[List.take_of_length_le (by rw[GU];omega)]
  have e2:M9 F p=OE F:=by unfold M9 OE;rw[List.take_of_length_le (by rw[GU];omega)]
  rw[<-e1,<-e2,<-hv,<-hf]
  refine .inr ⟨?_,_,_,_,AY (by unfold GO;simp only;rw[Ax]) (by simp)⟩
  have e:C2 F p=Dq F:=by unfold C2 Dq;rw[List.take_of_length_le (by rw[GU];omega)]
  rw[<-e];exact hI.cns
 |succ m ih=>
  intro p vars funcs l0 m0 hp hI hl hm hv hf kv kf
  rcases ADW hF hw hs hz hP (p:=p) (by omega) hI hl hm with ⟨h1,x,h2⟩ | ⟨vars',funcs',l',m',h1,h2,h3,h4,h5⟩
  ·exact .inl ⟨fun hc=>h1 (hc.mono Ot),x,AY h2 (by simp)⟩
  ·rw[AZ h4]
   have hx:F.subs[p]?=some (F.subs[p]'(by rw[GU];omega)):=qZ5 _
   obtain ⟨k1,k2,k3,k4⟩:=h5 _ hx kv kf
   refine ih (p+1) vars' funcs' l' m' (by omega) h1 h2 h3 ?_ ?_ k3 k4
   ·rw[k1,hv];unfold OD;rw[List.take_add_one,hx,Option.toList_some,List.foldl_append];rfl
   ·rw[k2,hf];unfold M9;rw[List.take_add_one,hx,Option.toList_some,List.foldl_append];rfl
theorem Z0 (hF:F.flat=t) (hw:F.wf=true) (hs:(0:Int)∉F.srt) (hz:F.size<=20000):(Du (Dq F)/\LZ (some (t,info 0 F))=some ((MT F,OE F,true,()),()))\/(¬ Du (Dq F)/\LZ (some (t,info 0 F))=some (([],[],false,()),())):=by
 unfold LZ
 simp only[Option.isSome_some,Option.getD_some]
 rw[DZ]
 rcases AED hF hw hs hz rfl F.size 0 [] [] [] [] (by omega) NI.nil (by simp) (by simp) rfl rfl KL.nil KL.nil with ⟨h1,x,h2⟩ | ⟨h1,v,f,x,h2⟩
 ·rw[show ((0:Nat):Int)=0 from rfl] at h2
  rw[h2]
  simp only[Ad,Bk,Bl,Ap,AA]
  exact .inr ⟨h1,by first | rfl | trivial⟩
 ·rw[show ((0:Nat):Int)=0 from rfl] at h2
  rw[h2]
  simp only[Ad,AX,Ap]
  exact .inl ⟨h1,by first | rfl | trivial⟩
end
structure VT (t:List Ac) (F:Tf):Prop where
 flat:F.flat=t
 wf:F.wf=true
 srt:(0:Int)∉F.srt
 len:F.len=1
 size:F.size<=20000
 dep:F.dep<=257
 cns:Du (Dq F)
theorem VT.one {t:List Ac} {F:Tf} (h:VT t F):∃ n k,F=cons n k nil:=by
 have:=h.len
 cases F with
 |nil=>simp[Tf.len] at this
 |cons n k r=>
  cases r with
  |nil=>exact ⟨n,k,rfl⟩
  |cons a b c=>simp only[Tf.len] at this;omega
theorem VT.bkp {t:List Ac} {F:Tf} (h:VT t F):bkp t=some F:=AEk.2 ⟨h.flat,h.wf,h.srt⟩
theorem VT.uniq {t:List Ac} {F G:Tf} (h:VT t F) (g:VT t G):F=G:=by
 have:=h.bkp;rw[g.bkp] at this;exact (Option.some.inj this).symm
theorem AGp {t:List Ac} (hs:D4 t):(∃ F,VT t F/\Jx t=some ((some (t,info 0 F),true,()),()))\/((¬ ∃ F,VT t F)/\Jx t=some ((none,false,()),())):=by
 unfold Jx
 by_cases h0:t.length=0
 ·rw[Aq]
  refine .inr ⟨fun ⟨F,hF⟩=>?_,rfl⟩
  obtain ⟨n,k,e⟩:=hF.one
  have:=hF.flat
  rw[e] at this
  rw[<-this] at h0
  simp[Tf.flat] at h0
 rw[Ag]
 by_cases h1:t.length > 20000
 ·rw[As]
  refine .inr ⟨fun ⟨F,hF⟩=>?_,rfl⟩
  have:=hF.size
  have h2:=BN F
  rw[hF.flat] at h2
  omega
 rw[Ax,ALK hs (by omega),Ad]
 cases hb:bkp t with
 |none=>exact .inr ⟨fun ⟨F,hF⟩=>(by rw[hF.bkp] at hb;cases hb),rfl⟩
 |some F=>
  obtain ⟨f1,f2,f3⟩:=Qz hb
  have hz:F.size<=20000:=by rw[<-BN,f1];omega
  simp only
  by_cases hl:F.len=1
  ·rw[qZ10 hl]
   simp only[qY2,AA]
   obtain ⟨n,k,e⟩:∃ n k,F=cons n k nil:=by
    cases F with
    |nil=>simp[Tf.len] at hl
    |cons n k r=>
     cases r with
     |nil=>exact ⟨n,k,rfl⟩
     |cons a b c=>simp only[Tf.len] at hl;omega
   have hlarge:OT (some (t,info 0 F))=some ((decide (F.dep > 257),()),()):=by
    unfold OT
    simp only[Option.isSome_some,Option.getD_some]
    rw[DZ,Ax,DZ,e]
    have hd:(cons n k nil).dep=k.dep+1:=by simp only[Tf.dep];omega
    have hg:((info 0 (cons n k nil)).getD (0:Int).toNat ((0:Int),(0:Int),(0:Int))).2.1=((k.dep+1:Nat):Int):=rfl
    rw[Ak,Ab,Ab (by rw[Ev];simp only[Tf.size];omega),hd]
    have e2:decide (((info 0 (cons n k nil)).getD (0:Int).toNat ((0:Int),(0:Int),(0:Int))).2.1 > 257)=decide (k.dep+1 > 257):=by rw[decide_eq_decide,hg];omega
    rw[e2]
   rw[hlarge,Ad]
   by_cases hd:F.dep > 257
   ·rw[qZ10 hd]
    refine .inr ⟨fun ⟨G,hG⟩=>?_,rfl⟩
    have:=hG.bkp
    rw[hb] at this
    cases this
    exact absurd hG.dep (by omega)
   rw[qZ9 hd]
   simp only[AA]
   rcases Z0 f1 f2 f3 hz with ⟨c1,c2⟩ | ⟨c1,c2⟩
   ·rw[c2,Ad]
    exact .inl ⟨F,⟨f1,f2,f3,hl,hz,by omega,c1⟩,rfl⟩
   ·rw[c2,Ad]
    refine .inr ⟨fun ⟨G,hG⟩=>?_,rfl⟩
    have:=hG.bkp
    rw[hb] at this
    cases this
    exact c1 hG.cns
  ·rw[qZ9 hl]
   refine .inr ⟨fun ⟨G,hG⟩=>?_,rfl⟩
   have:=hG.bkp
   rw[hb] at this
   cases this
   exact hl hG.len
theorem AKE {t:List Ac} (hs:D4 t):∃ b,KR t=some ((b,()),())/\(b=true ↔ ∃ F,VT t F):=by
 unfold KR
 rcases AGp hs with ⟨F,h1,h2⟩ | ⟨h1,h2⟩
 ·rw[h2,Ad];exact ⟨_,rfl,fun _=>⟨F,h1⟩,fun _=>rfl⟩
 ·rw[h2,Ad];exact ⟨_,rfl,fun h=>(by cases h),fun h=>absurd h h1⟩
end Go.AM.Num
end
section
namespace Go.AM.Num
inductive SV where
 |b (x:Bool)
 |z (n:Int)
 |q (r:Rat)
 |a (d:Int) (P:KV)
def encS:SV->Ae
 |.b x=>(1,x,[],[],[])
 |.z n=>(2,false,ti n,[],[])
 |.q r=>(3,false,An r,[],[])
 |.a d P=>AI d P
def Ay:SV->Int
 |.b _=>1
 |.z _=>2
 |.q _=>3
 |.a _ _=>4
def Cw:SV->Prop
 |.a d P=>Canon d P
 |_=>True
def Ck:SV->Bool
 |.b x=>x
 |_=>false
def A5:SV->Rat
 |.z n=>(n:Rat)
 |.q r=>r
 |_=>0
def intV (v:SV):Int:=(A5 v).num
def C8 (s:Int) (r:Rat):SV:=if s=2 then .z r.num else .q r
def N':SV->Int->Int
 |.a d P,i=>CQ d P i
 |_,_=>0
def NK:SV->Int->Int->SV
 |.a d P,i,n=>.a d (Dn d P i n)
 |v,_,_=>v
def Kg (vs:List SV):Rat:=vs.foldl (fun s v=>s+A5 v) 0
noncomputable def B2 (n:Ac):Rat:=(rd (Bg n)).getD 0
open Classical in
noncomputable def Br (n:Ac) (vs:List SV):SV:=
 if nOp n=1\/nOp n=7 then .b (vs.all Ck)
 else if nOp n=2\/nOp n=8 then .b (vs.any Ck)
 else if nOp n=6 then .b (!Ck (vs.getD 0 (.b false)))
 else if nOp n=9 then .b (!Ck (vs.getD 0 (.b false))||Ck (vs.getD 1 (.b false)))
 else if nOp n=10 then (if Ck (vs.getD 0 (.b false))=true then vs.getD 1 (.b false) else vs.getD 2 (.b false))
 else if nOp n=11 then .b (decide (vs.getD 0 (.b false)=vs.getD 1 (.b false)))
 else if nOp n=12 then .b (decide (A5 (vs.getD 0 (.b false))<=A5 (vs.getD 1 (.b false))))
 else if nOp n=13 then .b (decide (A5 (vs.getD 0 (.b false)) < A5 (vs.getD 1 (.b false))))
 else if nOp n=3 then C8 (A3 n) (B2 n)
 else if nOp n=14 then C8 (Ay (vs.getD 0 (.b false))) (Kg vs)
 else if nOp n=15 then C8 (Ay (vs.getD 0 (.b false))) (A5 (vs.getD 0 (.b false)) * A5 (vs.getD 1 (.b false)))
 else if nOp n=16 then .z (intV (vs.getD 0 (.b false)) / (B2 n).num)
 else if nOp n=17 then .z (intV (vs.getD 0 (.b false)) % (B2 n).num)
 else if nOp n=18 then .z (N' (vs.getD 0 (.b false)) (intV (vs.getD 1 (.b false))))
 else if nOp n=19 then NK (vs.getD 0 (.b false)) (intV (vs.getD 1 (.b false))) (intV (vs.getD 2 (.b false)))
 else .a (intV (vs.getD 0 (.b false))) []
theorem FC (v:SV):(encS v).1=Ay v:=by cases v<;>rfl
theorem AEv {P Q:KV} (h1:ks P=ks Q) (h2:vs P=vs Q):P=Q:=by
 induction P generalizing Q with
 |nil=>cases Q with
  |nil=>rfl
  |cons q Q=>simp[ks] at h1
 |cons p P ih=>
  cases Q with
  |nil=>simp[ks] at h1
  |cons q Q=>
   simp only[ks,vs,List.map_cons,List.cons.injEq] at h1 h2
   rw[ih h1.2 h2.2,Prod.ext (IY h1.1) (IY h2.1)]
theorem Tq {v w:SV} (h:encS v=encS w):v=w:=by
 have hs:=congrArg Prod.fst h
 rw[FC,FC] at hs
 cases v<;>cases w<;>simp only[Ay] at hs<;>first | (exfalso;revert hs;decide) | skip
 ·simp only[encS,Prod.mk.injEq] at h;rw[h.2.1]
 ·simp only[encS,Prod.mk.injEq] at h;rw[IY h.2.2.1]
 ·simp only[encS,Prod.mk.injEq] at h;rw[txt_inj h.2.2.1]
 ·simp only[encS,Prod.mk.injEq] at h;rw[IY h.2.2.1,AEv h.2.2.2.1 h.2.2.2.2]
theorem P9 {v:Ae}:EO v=true ↔ v.2.2.2.1=[]/\v.2.2.2.2=[]:=by
 unfold EO
 simp only[qY0,decide_eq_true_eq,List.length_eq_zero_iff]
theorem WC {v:Ae}:AL v=true ↔ ∃ s,Cw s/\v=encS s:=by
 constructor
 ·intro h
  by_cases h4:v.1=4
  ·obtain ⟨d,P,e,c⟩:=AB9 h h4
   exact ⟨.a d P,c,e⟩
  obtain ⟨s,b,num,k,w⟩:=v
  simp only at h4
  unfold AL at h
  simp only at h
  split at h
  ·rename_i h1
   subst h1
   simp only[qY0,P9,beq_iff_eq] at h
   obtain ⟨rfl,rfl,rfl⟩:=h
   exact ⟨.b b,trivial,rfl⟩
  ·split at h
   ·rename_i h1
    subst h1
    simp only[qY0,P9,Bool.not_eq_true'] at h
    obtain ⟨⟨rfl,h2⟩,rfl,rfl⟩:=h
    obtain ⟨z,rfl⟩:=QD h2
    exact ⟨.z z,trivial,rfl⟩
   ·split at h
    ·rename_i h1
     subst h1
     simp only[qY0,P9,Bool.not_eq_true',Option.isSome_iff_exists] at h
     obtain ⟨⟨rfl,q,h2⟩,rfl,rfl⟩:=h
     have:=DM h2
     subst this
     exact ⟨.q q,trivial,rfl⟩
    ·first | cases h | (rw[if_neg h4] at h;cases h)
 ·rintro ⟨s,h,rfl⟩
  cases s with
  |b x=>simp[encS,AL,EO]
  |z n=>simp[encS,AL,EO,FT]
  |q r=>simp[encS,AL,EO,Ct]
  |a d P=>exact Pa h
theorem Ru {s:SV} (h:Cw s):AL (encS s)=true:=WC.2 ⟨s,h,rfl⟩
theorem O3 {s:Int} (h:s=2\/s=3) (r:Rat):Ay (C8 s r)=s:=by
 unfold C8
 split
 ·rename_i e;rw[e];rfl
 ·rcases h with h | h
  ·contradiction
  ·rw[h];rfl
theorem O4 (s:Int) (r:Rat):Cw (C8 s r):=by unfold C8;split<;>trivial
theorem ABa {n:Ac} {vs:List SV} {f:Int} (hn:Bq n=true) (h4:nOp n≠4) (h5:nOp n≠5) (hc:AH (nOp n) vs.length=true) (hs:AQ n f (vs.map Ay)≠0) (hok:∀ v∈vs,Cw v) :
 Ay (Br n vs)=AQ n f (vs.map Ay)/\Cw (Br n vs):=by
 obtain ⟨o,s,nm,num,kd⟩:=n
 simp only[nOp] at h4 h5 hc
 have hall:∀ ws:List SV,(if ∀ s∈ws.map Ay,s=1 then (1:Int) else 0)≠0->(1:Int)=if ∀ s∈ws.map Ay,s=1 then (1:Int) else 0:=fun ws h=>by
  split at h<;>rename_i hh
  ·rw[if_pos hh]
  ·exact absurd rfl h
 unfold Br AQ at *
 simp only[nOp,A3] at *
 by_cases e3:o=3
 ·subst e3
  simp at hs ⊢
  refine ⟨O3 ?_ _,O4 _ _⟩
  simp[Bq] at hn
  rcases hn.2 with h | h
  ·exact .inl h.1
  ·exact .inr h.1
 rw[if_neg (show ¬ (o=3\/o=4\/o=5) by omega)] at hs ⊢
 by_cases e1:o=1\/o=7
 ·rw[if_pos e1,if_pos (by omega)]
  rw[if_pos (by omega)] at hs
  exact ⟨hall vs hs,trivial⟩
 rw[if_neg e1]
 by_cases e2:o=2\/o=8
 ·rw[if_pos e2,if_pos (by omega)]
  rw[if_pos (by omega)] at hs
  exact ⟨hall vs hs,trivial⟩
 rw[if_neg e2]
 by_cases e6:o=6
 ·rw[if_pos e6,if_pos (by omega)]
  rw[if_pos (by omega)] at hs
  exact ⟨hall vs hs,trivial⟩
 rw[if_neg e6]
 by_cases e9:o=9
 ·rw[if_pos e9,if_pos (by omega)]
  rw[if_pos (by omega)] at hs
  exact ⟨hall vs hs,trivial⟩
 rw[if_neg e9]
 rw[if_neg (show ¬ (o=1\/o=2\/o=6\/o=7\/o=8\/o=9) by omega)] at hs ⊢
 by_cases e10:o=10
 ·subst e10
  rcases vs with _ | ⟨a,_ | ⟨b,_ | ⟨c,_ | ⟨d,l⟩⟩⟩⟩<;>simp[AH] at hc
  ·simp at hs hok ⊢
   by_cases q:Ck a=true
   ·rw[if_pos q,if_pos ⟨hs.1,hs.2.1⟩];exact ⟨rfl,hok.2.1⟩
   ·rw[if_neg q,if_pos ⟨hs.1,hs.2.1⟩];exact ⟨hs.2.1.symm,hok.2.2⟩
  ·omega
 rw[if_neg e10] at hs ⊢
 rw[if_neg e10]
 by_cases e11:o=11
 ·subst e11
  simp at hs ⊢
  rw[if_pos hs];exact ⟨rfl,trivial⟩
 rw[if_neg e11] at hs ⊢
 rw[if_neg e11]
 by_cases e12:o=12
 ·subst e12
  simp only[true_or,if_true] at hs ⊢
  split at hs<;>rename_i hh
  ·rw[if_pos hh];exact ⟨rfl,trivial⟩
  ·exact absurd rfl hs
 rw[if_neg e12]
 by_cases e13:o=13
 ·subst e13
  simp only[or_true,if_true] at hs ⊢
  split at hs<;>rename_i hh
  ·rw[if_pos hh];exact ⟨rfl,trivial⟩
  ·exact absurd rfl hs
 rw[if_neg e13,if_neg e3]
 rw[if_neg (show ¬ (o=12\/o=13) by omega)] at hs ⊢
 by_cases e14:o=14
 ·subst e14
  rcases vs with _ | ⟨a,l⟩<;>simp[AH] at hc
  simp only[if_true,List.map_cons,qZ3] at hs ⊢
  split at hs<;>rename_i hh
  ·rw[if_pos hh];exact ⟨O3 hh.1 _,O4 _ _⟩
  ·exact absurd rfl hs
 rw[if_neg e14] at hs ⊢
 rw[if_neg e14]
 by_cases e15:o=15
 ·subst e15
  rcases vs with _ | ⟨a,l⟩<;>simp[AH] at hc
  simp only[if_true,List.map_cons,qZ3] at hs ⊢
  split at hs<;>rename_i hh
  ·rw[if_pos hh];exact ⟨O3 hh.2.1 _,O4 _ _⟩
  ·exact absurd rfl hs
 rw[if_neg e15] at hs ⊢
 rw[if_neg e15]
 by_cases e16:o=16
 ·rw[if_pos e16,if_pos (.inl e16)]
  rw[if_pos (.inl e16)] at hs
  split at hs<;>rename_i hh
  ·rw[if_pos hh];exact ⟨rfl,trivial⟩
  ·exact absurd rfl hs
 rw[if_neg e16]
 by_cases e17:o=17
 ·rw[if_pos e17,if_pos (.inr e17)]
  rw[if_pos (.inr e17)] at hs
  split at hs<;>rename_i hh
  ·rw[if_pos hh];exact ⟨rfl,trivial⟩
  ·exact absurd rfl hs
 rw[if_neg e17]
 rw[if_neg (show ¬ (o=16\/o=17) by omega)] at hs ⊢
 by_cases e18:o=18
 ·rw[if_pos e18] at hs ⊢
  rw[if_pos e18]
  split at hs<;>rename_i hh
  ·rw[if_pos hh];exact ⟨rfl,trivial⟩
  ·exact absurd rfl hs
 rw[if_neg e18] at hs ⊢
 rw[if_neg e18]
 by_cases e19:o=19
 ·subst e19
  rcases vs with _ | ⟨a,_ | ⟨b,_ | ⟨c,_ | ⟨d,l⟩⟩⟩⟩<;>simp[AH] at hc
  ·simp at hs hok ⊢
   rw[if_pos hs]
   cases a with
   |a d P=>exact ⟨rfl,RV hok.1 _ _⟩
   |b x=>simp[Ay] at hs
   |z x=>simp[Ay] at hs
   |q x=>simp[Ay] at hs
  ·omega
 rw[if_neg e19] at hs ⊢
 rw[if_neg e19]
 split at hs<;>rename_i hh
 ·rw[if_pos hh]
  split at hs<;>rename_i h2
  ·rw[if_pos h2];exact ⟨rfl,MZ _⟩
  ·exact absurd rfl hs
 ·exact absurd rfl hs
structure Ht (m:Nat) (r:Rat):Prop where
 num:(dd r.num.natAbs).length<=m
 den:(dd r.den).length<=m
theorem Ht.mono {m k:Nat} {r:Rat} (h:Ht m r) (hk:m<=k):Ht k r:=⟨by have:=h.num;omega,by have:=h.den;omega⟩
theorem Ht.D {m:Nat} {r:Rat} (h:Ht m r):D r<=2 * m:=by have:=h.num;have:=h.den;unfold Num.D;omega
theorem O5 {m:Nat} {r:Rat} (h:D r<=m):Ht m r:=by unfold Num.D at h;exact ⟨by omega,by omega⟩
theorem UP {n:Int} {d m:Nat} (hd:d≠0) (h1:(dd n.natAbs).length<=m) (h2:(dd d).length<=m):Ht m (mkRat n d):=by
 have e1:(n / (d.gcd n.natAbs:Nat)).natAbs<=n.natAbs:=by
  obtain ⟨k,hk⟩:((d.gcd n.natAbs:Nat):Int) ∣ n:=by
   have:=Nat.gcd_dvd_right d n.natAbs
   exact Int.ofNat_dvd_left.2 this
  have hg:((d.gcd n.natAbs:Nat):Int)≠0:=fun e=>hd (Nat.gcd_eq_zero_iff.1 (by exact_mod_cast e)).1
  have e1:n / (d.gcd n.natAbs:Nat)=k:=by
   conv=>lhs;lhs;rw[hk]
   exact Int.mul_ediv_cancel_left _ hg
  rw[e1]
  conv=>rhs;rw[hk,Int.natAbs_mul]
  exact Nat.le_mul_of_pos_left _ (by omega)
 have e2:=Nat.div_le_self d (d.gcd n.natAbs)
 have:=BL e1
 have:=BL e2
 refine ⟨?_,?_⟩
 ·rw[Rat.num_mkRat,if_neg hd];omega
 ·rw[Rat.den_mkRat,if_neg hd];omega
theorem O8 {m k:Nat} {p q:Rat} (hp:Ht m p) (hq:Ht k q):Ht (m+k+1) (p+q):=by
 rw[Rat.add_def']
 have h1:=BL (R0 (p.num * q.den) (q.num * p.den))
 have h2:=I7 (p.num * q.den).natAbs (q.num * p.den).natAbs
 rw[Int.natAbs_mul,Int.natAbs_mul,Int.natAbs_natCast,Int.natAbs_natCast] at h1 h2
 have h3:=Cf p.num.natAbs q.den
 have h4:=Cf q.num.natAbs p.den
 have h5:=Cf p.den q.den
 have:=hp.num;have:=hp.den;have:=hq.num;have:=hq.den
 exact UP (Nat.mul_ne_zero p.den_nz q.den_nz) (by omega) (by omega)
theorem ACp {m k:Nat} {p q:Rat} (hp:Ht m p) (hq:Ht k q):Ht (m+k) (p * q):=by
 rw[Rat.mul_def']
 have h1:=Cf p.num.natAbs q.num.natAbs
 have h5:=Cf p.den q.den
 have:=hp.num;have:=hp.den;have:=hq.num;have:=hq.den
 exact UP (Nat.mul_ne_zero p.den_nz q.den_nz) (by rw[Int.natAbs_mul];omega) (by omega)
theorem Ee {m:Nat} {n:Int} (h:(dd n.natAbs).length<=m):Ht m (n:Rat):=by
 refine ⟨by rw[Rat.num_intCast];exact h,?_⟩
 rw[Rat.den_intCast,C1]
 have:=JH n.natAbs
 simp;omega
theorem HV {m:Nat} {r:Rat} (h:Ht m r):Ht m ((r.num:Int):Rat):=Ee h.num
theorem S7 {m:Nat} {x y:Int} (h:Ht m (x:Rat)) (hy:y.natAbs<=x.natAbs):Ht m (y:Rat):=by
 have:=h.num
 rw[Rat.num_intCast] at this
 exact Ee (by have:=BL hy;omega)
def C0 (B:Nat):SV->Prop
 |.b _=>True
 |.z n=>Ht B (n:Rat)
 |.q r=>Ht B r
 |.a d P=>Ht B (d:Rat)/\(∀ p∈P,Ht B (p.1:Rat)/\Ht B (p.2:Rat))/\P.length<=B
theorem C0.mono {B C:Nat} {v:SV} (h:C0 B v) (hc:B<=C):C0 C v:=by
 cases v with
 |b _=>trivial
 |z n=>exact Ht.mono h hc
 |q r=>exact Ht.mono h hc
 |a d P=>
  obtain ⟨h1,h2,h3⟩:=h
  exact ⟨h1.mono hc,fun p hp=>⟨(h2 p hp).1.mono hc,(h2 p hp).2.mono hc⟩,by omega⟩
theorem CG {B:Nat} {v:SV} (h:C0 B v) (hB:1<=B):Ht B (A5 v):=by
 have h0:Ht B ((0:Int):Rat):=Ee (by simp[BC];exact hB)
 cases v with
 |b _=>exact h0
 |z n=>exact h
 |q r=>exact h
 |a d P=>exact h0
theorem Fw {B:Nat} {v:SV} (h:C0 B v) (hB:1<=B):Ht B ((intV v:Int):Rat):=HV (CG h hB)
def Hs:List SV->Nat->Prop
 |[],_=>True
 |v::vs,B=>∃ b c,1<=b/\C0 b v/\Hs vs c/\b+1+c<=B
theorem Hs.mono {vs:List SV} {B C:Nat} (h:Hs vs B) (hc:B<=C):Hs vs C:=by
 cases vs with
 |nil=>trivial
 |cons v vs=>obtain ⟨b,c,h1,h2,h3,h4⟩:=h;exact ⟨b,c,h1,h2,h3,by omega⟩
theorem Hs.mem:∀ {vs:List SV} {B:Nat},Hs vs B->∀ v∈vs,C0 B v:=by
 intro vs
 induction vs with
 |nil=>intro B _ v hv;cases hv
 |cons w vs ih=>
  intro B h v hv
  obtain ⟨b,c,h1,h2,h3,h4⟩:=h
  rcases List.mem_cons.1 hv with rfl | hv
  ·exact h2.mono (by omega)
  ·exact (ih h3 v hv).mono (by omega)
theorem Hs.sum:∀ {vs:List SV} {a B:Nat} {r:Rat},Ht a r->Hs vs B->Ht (a+B) (vs.foldl (fun s v=>s+A5 v) r):=by
 intro vs
 induction vs with
 |nil=>intro a B r h _;exact h.mono (by omega)
 |cons w vs ih=>
  intro a B r h hs
  obtain ⟨b,c,h1,h2,h3,h4⟩:=hs
  exact (ih (O8 h (CG h2 h1)) h3).mono (by omega)
theorem Hs.get {vs:List SV} {B:Nat} (h:Hs vs B) (i:Nat):C0 B (vs.getD i (.b false)):=by
 rw[qZ4]
 cases hi:vs[i]? with
 |none=>trivial
 |some v=>exact h.mem v (qY14 hi)
theorem ACl (i:Int):∀ P:KV,(lo i P).length+(hi i P).length<=P.length:=by
 intro P
 induction P with
 |nil=>simp[lo,hi]
 |cons p P ih=>
  simp only[lo,hi] at ih
  simp only[lo,hi,List.filter_cons]
  by_cases h1:p.1 < i
  ·rw[if_pos (qZ10 h1),if_neg (by simp;omega)];simp;omega
  ·rw[if_neg (by simp;omega)]
   split<;>simp<;>omega
theorem PP {B:Nat} {r:Rat} (s:Int) (h:Ht B r):C0 B (C8 s r):=by unfold C8;split;exact HV h;exact h
theorem AFw {n:Ac} {vs:List SV} {B:Nat} (hB:Hs vs B) (hn:Ht 75 (B2 n)):C0 (B+79) (Br n vs):=by
 have g:=hB.get
 have gi:∀ i,Ht (B+1) ((intV (vs.getD i (.b false)):Int):Rat):=fun i=>Fw ((g i).mono (by omega)) (by omega)
 have gv:∀ i,Ht (B+1) (A5 (vs.getD i (.b false))):=fun i=>CG ((g i).mono (by omega)) (by omega)
 unfold Br
 by_cases c0:nOp n=1\/nOp n=7
 ·rw[if_pos c0];trivial
 rw[if_neg c0]
 by_cases c1:nOp n=2\/nOp n=8
 ·rw[if_pos c1];trivial
 rw[if_neg c1]
 by_cases c2:nOp n=6
 ·rw[if_pos c2];trivial
 rw[if_neg c2]
 by_cases c3:nOp n=9
 ·rw[if_pos c3];trivial
 rw[if_neg c3]
 by_cases c4:nOp n=10
 ·rw[if_pos c4]
  split<;>exact (g _).mono (by omega)
 rw[if_neg c4]
 by_cases c5:nOp n=11
 ·rw[if_pos c5];trivial
 rw[if_neg c5]
 by_cases c6:nOp n=12
 ·rw[if_pos c6];trivial
 rw[if_neg c6]
 by_cases c7:nOp n=13
 ·rw[if_pos c7];trivial
 rw[if_neg c7]
 by_cases c8:nOp n=3
 ·rw[if_pos c8];exact PP _ (hn.mono (by omega))
 rw[if_neg c8]
 by_cases c9:nOp n=14
 ·rw[if_pos c9]
  have h0:Ht 1 (0:Rat):=Ee (n:=0) (by simp[BC])
  exact PP _ ((hB.sum h0).mono (by omega))
 rw[if_neg c9]
 by_cases c10:nOp n=15
 ·rw[if_pos c10]
  refine PP _ ?_
  rcases vs with _ | ⟨a,_ | ⟨b,l⟩⟩
  ·simp only[List.getD_nil,A5]
   rw[Rat.zero_mul]
   exact Ee (n:=0) (by simp[BC])
  ·simp only[qZ2,List.getD_nil,A5]
   rw[Rat.mul_zero]
   exact Ee (n:=0) (by simp[BC])
  ·obtain ⟨x,c,h1,h2,⟨y,c2,h5,h6,h7,h8⟩,h4⟩:=hB
   simp only[qZ2,qZ3]
   exact (ACp (CG h2 h1) (CG h6 h5)).mono (by omega)
 rw[if_neg c10]
 by_cases c11:nOp n=16
 ·rw[if_pos c11]
  have:(intV (vs.getD 0 (.b false)) / (B2 n).num).natAbs<=(intV (vs.getD 0 (.b false))).natAbs:=by
   have h:=Int.natAbs_ediv_le_natAbs (intV (vs.getD 0 (.b false))) (B2 n).num
   exact h
  exact (S7 (gi 0) this).mono (by omega)
 rw[if_neg c11]
 by_cases c12:nOp n=17
 ·rw[if_pos c12]
  by_cases hz:(B2 n).num=0
  ·rw[hz,Int.emod_zero];exact (gi 0).mono (by omega)
  ·have:(intV (vs.getD 0 (.b false)) % (B2 n).num).natAbs<=(B2 n).num.natAbs:=by
    have h1:=Int.emod_nonneg (intV (vs.getD 0 (.b false))) hz
    have h2:=Int.emod_lt (intV (vs.getD 0 (.b false))) hz
    omega
   exact (S7 (HV hn) this).mono (by omega)
 rw[if_neg c12]
 by_cases c13:nOp n=18
 ·rw[if_pos c13]
  have ga:=g 0
  generalize vs.getD 0 (.b false)=v at ga
  cases v with
  |a d P=>
   obtain ⟨h1,h2,h3⟩:=ga
   have:CQ d P (intV (vs.getD 1 (.b false)))=d\/∃ p∈P,CQ d P (intV (vs.getD 1 (.b false)))=p.2:=by
    unfold CQ
    cases hf:P.find? fun p=>decide (p.1=intV (vs.getD 1 (.b false))) with
    |none=>exact .inl rfl
    |some p=>exact .inr ⟨p,List.mem_of_find?_eq_some hf,rfl⟩
   simp only[N']
   rcases this with e | ⟨p,hp,e⟩
   ·rw[e];exact h1.mono (by omega)
   ·rw[e];exact (h2 p hp).2.mono (by omega)
  |b _=>exact Ee (n:=0) (by simp[BC])
  |z _=>exact Ee (n:=0) (by simp[BC])
  |q _=>exact Ee (n:=0) (by simp[BC])
 rw[if_neg c13]
 by_cases c14:nOp n=19
 ·rw[if_pos c14]
  have ga:=g 0
  generalize vs.getD 0 (.b false)=v at ga
  cases v with
  |a d P=>
   obtain ⟨h1,h2,h3⟩:=ga
   simp only[NK]
   refine ⟨h1.mono (by omega),fun p hp=>?_,?_⟩
   ·unfold Dn at hp
    rcases List.mem_append.1 hp with hp | hp
    ·rcases List.mem_append.1 hp with hp | hp
     ·have:=h2 p (Jt.1 hp).1;exact ⟨this.1.mono (by omega),this.2.mono (by omega)⟩
     ·split at hp
      ·cases hp
      ·rw[List.mem_singleton.1 hp];exact ⟨(gi 1).mono (by omega),(gi 2).mono (by omega)⟩
    ·have:=h2 p (Lj.1 hp).1;exact ⟨this.1.mono (by omega),this.2.mono (by omega)⟩
   ·have e:=ACl (intV (vs.getD 1 (.b false))) P
    unfold Dn
    simp only[qZ6]
    split<;>simp only[List.length_nil,qY11]<;>omega
  |b _=>trivial
  |z _=>exact Ht.mono ga (by omega)
  |q _=>exact Ht.mono ga (by omega)
 rw[if_neg c14]
 ·exact ⟨(gi 0).mono (by omega),fun p hp=>absurd hp qY16,Nat.zero_le _⟩
end Go.AM.Num
end
section
namespace Go.AM.Num
open Tf
noncomputable def E3 (A:qBs->Option SV) (G:Ac->List SV->Int ⊕ SV) (n:Ac) (vs:List SV):Int ⊕ SV:=
 if nOp n=4 then (match A (Bo n) with | none=>.inl 7 | some v=>if Ay v=A3 n then .inr v else .inl 3)
 else if nOp n=5 then G n vs
 else .inr (Br n vs)
noncomputable def evF (A:qBs->Option SV) (G:Ac->List SV->Int ⊕ SV):Tf->Int ⊕ List SV
 |.nil=>.inr []
 |.cons n k r=>match evF A G k with
  |.inl e=>.inl e
  |.inr vs=>match E3 A G n vs with
   |.inl e=>.inl e
   |.inr v=>match evF A G r with
    |.inl e=>.inl e
    |.inr ws=>.inr (v::ws)
structure EA (A:qBs->Option SV) (G:Ac->List SV->Int ⊕ SV):Prop where
 ok:∀ nm v,A nm=some v->Cw v/\C0 75 v
 fn:∀ n vs v,G n vs=.inr v->Cw v/\C0 75 v/\Ay v=A3 n
 er:∀ n vs e,G n vs=.inl e->e≠0
def D_ (f:Tf):Prop:=∀ n∈f.flat,(Bg n).length<=73
theorem Pv {n:Ac} (h:(Bg n).length<=73):Ht 75 (B2 n):=by
 unfold B2
 cases hr:rd (Bg n) with
 |none=>exact Ee (n:=0) (by simp[BC])
 |some q=>
  have e:=DM hr
  have:=Ik q
  rw[<-e] at this
  exact O5 (r:=q) (by omega)
theorem Gu {n:Ac}:Cv n=true ↔ Bq n=true/\AH (nOp n) (A7 n)=true:=by unfold Cv;rw[qY0]
theorem AC {A:qBs->Option SV} {G:Ac->List SV->Int ⊕ SV} (hE:EA A G):∀ (F:Tf),F.wf=true->(0:Int)∉F.srt->D_ F->∀ vs,evF A G F=.inr vs->vs.map Ay=F.srt/\(∀ v∈vs,Cw v)/\Hs vs (80 * F.size):=by
 intro F
 induction F with
 |nil=>
  intro _ _ _ vs h
  simp only[evF,Sum.inr.injEq] at h
  subst h
  exact ⟨rfl,fun v hv=>(by cases hv),trivial⟩
 |cons n k r ik ir=>
  intro hw hs hn vs h
  obtain ⟨w1,w2,w3,w4⟩:=CF.1 hw
  obtain ⟨s1,s2,s3⟩:=EF.1 hs
  have hnk:D_ k:=fun m hm=>hn m (by simp only[flat,qY12,qZ7];exact .inr (.inl hm))
  have hnr:D_ r:=fun m hm=>hn m (by simp only[flat,qY12,qZ7];exact .inr (.inr hm))
  have hnn:=Pv (hn n (by simp[flat]))
  simp only[evF] at h
  split at h
  ·cases h
  rename_i ks hk
  obtain ⟨k1,k2,k3⟩:=ik w3 s1 hnk _ hk
  split at h
  ·cases h
  rename_i v hv
  split at h
  ·cases h
  rename_i ws hr
  obtain ⟨r1,r2,r3⟩:=ir w4 s3 hnr _ hr
  simp only[Sum.inr.injEq] at h
  subst h
  have key:Ay v=AQ n (op1 k) k.srt/\Cw v/\C0 (80 * k.size+79) v:=by
   unfold E3 at hv
   split at hv
   ·rename_i h4
    split at hv
    ·cases hv
    rename_i u hu
    split at hv
    ·rename_i e
     simp only[Sum.inr.injEq] at hv
     subst hv
     obtain ⟨a1,a2⟩:=hE.ok _ _ hu
     exact ⟨by rw[e];unfold AQ;rw[if_pos (by omega)],a1,a2.mono (by omega)⟩
    ·cases hv
   ·rename_i h4
    split at hv
    ·rename_i h5
     obtain ⟨a1,a2,a3⟩:=hE.fn _ _ _ hv
     exact ⟨by rw[a3];unfold AQ;rw[if_pos (by omega)],a1,a2.mono (by omega)⟩
    ·rename_i h5
     simp only[Sum.inr.injEq] at hv
     subst hv
     obtain ⟨f1,f2⟩:=Gu.1 w1
     have hl:(ks.length:Int)=A7 n:=by
      have:=congrArg List.length k1
      rw[List.length_map,DN] at this
      omega
     obtain ⟨a1,a2⟩:=ABa (f:=op1 k) f1 h4 h5 (by rw[hl];exact f2) (by rw[k1];exact s2) k2
     rw[k1] at a1
     exact ⟨a1,a2,AFw k3 hnn⟩
  obtain ⟨q1,q2,q3⟩:=key
  refine ⟨?_,?_,?_⟩
  ·simp only[List.map_cons,srt,r1,q1]
   rw[if_neg s1]
  ·intro u hu
   rcases List.mem_cons.1 hu with rfl | hu
   ·exact q2
   ·exact r2 u hu
  ·exact ⟨80 * k.size+79,80 * r.size,by omega,q3,r3,by simp only[size];omega⟩
theorem Un {vs:List SV} {i:Nat} (h:i < vs.length):(vs.map encS).getD i zVal=encS (vs.getD i (.b false)):=by
 simp[qZ4,h]
theorem EI (v:SV):(encS v).2.1=Ck v:=by cases v<;>rfl
theorem DL {v:SV} (h:Ay v=2\/Ay v=3):(encS v).2.2.1=An (A5 v):=by
 cases v with
 |z n=>rfl
 |q r=>rfl
 |b x=>simp[Ay] at h
 |a d P=>simp[Ay] at h
theorem C4 {v:SV} (h:Ay v=2):v=.z (intV v)/\(encS v).2.2.1=ti (intV v)/\A5 v=(intV v:Rat):=by
 cases v with
 |z n=>
  have e:intV (.z n)=n:=by unfold intV A5;exact Rat.num_intCast n
  rw[e];exact ⟨rfl,rfl,rfl⟩
 |q r=>simp[Ay] at h
 |b x=>simp[Ay] at h
 |a d P=>simp[Ay] at h
theorem Nz {v:SV} (h:Ay v=4):∃ d P,v=.a d P:=by
 cases v with
 |z n=>simp[Ay] at h
 |q r=>simp[Ay] at h
 |b x=>simp[Ay] at h
 |a d P=>exact ⟨d,P,rfl⟩
theorem IP {s:Int} {r:Rat} (hs:s=2\/s=3) (h:s=2->r.den=1):encS (C8 s r)=(s,false,An r,[],[]):=by
 unfold C8
 split
 ·rename_i e
  have:=OB (h e)
  rw[e]
  simp only[encS,ti]
  rw[<-this]
 ·have:s=3:=by omega
  rw[this];rfl
theorem Rv {α:Type} (p:α->Bool) (l:List α):(l.all fun x=>!p x)=!l.any p:=by
 induction l with
 |nil=>rfl
 |cons a l ih=>simp only[List.all_cons,List.any_cons,ih,Bool.not_or]
theorem Qe {st:(List Ae)×Unit×Int×Int×Int×Unit->Option (Ex×((List Ae)×Unit×Int×Int×Int×Unit))} {l:List Ae} {p:Ae->Bool} (hl:l.length<=1000000000)
 (hg:∀ k,k < l.length->st (l,(),0,(l.length:Int),(k:Int),())=some (if p (l.getD k zVal) then (.ret,(l,(),(k:Int),(l.length:Int),(k:Int),())) else (.normal,(l,(),0,(l.length:Int),((k+1:Nat):Int),()))))
 (he:st (l,(),0,(l.length:Int),(l.length:Int),())=some (.exit 0,(l,(),0,(l.length:Int),(l.length:Int),()))) :
 (l.any p=false/\Am st (l,(),0,(l.length:Int),0,())=some (.exit 0,(l,(),0,(l.length:Int),(l.length:Int),())))\/(l.any p=true/\∃ k:Nat,Am st (l,(),0,(l.length:Int),0,())=some (.ret,(l,(),(k:Int),(l.length:Int),(k:Int),()))):=by
 have key:=CN (step:=st) (fun k=>(l,(),(0:Int),(l.length:Int),(k:Int),())) (fun k=>(l,(),(k:Int),(l.length:Int),(k:Int),())) l.length (E:=.exit 0) (B:=.ret) (by simp) (by simp) (fun k=>!p (l.getD k zVal)) (fun k hk=>by
  rw[hg k hk]
  cases p (l.getD k zVal)<;>rfl) he
 rw[Fd l zVal (fun x=>!p x)] at key
 rw[Rv] at key
 rcases key with ⟨k1,k2⟩ | ⟨k1,k,k2⟩
 ·exact .inl ⟨by simpa using k1,k2⟩
 ·exact .inr ⟨by simpa using k1,k,k2⟩
theorem ALG {l:List Ae} (hl:l.length<=1000000000):KY l ()=some ((l.any fun v=>!v.2.1,()),()):=by
 have key:=Qe (st:=LU) (p:=fun v=>!v.2.1) hl (fun k hk=>by
  unfold LU
  simp only
  rw[As,Ak,Ab,Ab,qZ0,Aw]
  unfold Hh
  rw[Ad]
  cases (l.getD k zVal).2.1<;>rfl) (by
  unfold LU
  simp only
  rw[Ax])
 unfold KY QX
 rcases key with ⟨k1,k2⟩ | ⟨k1,k,k2⟩
 ·rw[k2,k1];rfl
 ·rw[k2,k1]
  simp only[Ad,Bk,Bl,Ap,AA]
  rw[qZ10 (by omega)]
theorem AHF {l:List Ae} (hl:l.length<=1000000000):K5 l ()=some ((l.any fun v=>v.2.1,()),()):=by
 have key:=Qe (st:=LQ) (p:=fun v=>v.2.1) hl (fun k hk=>by
  unfold LQ
  simp only
  rw[As,Ak,Ab,Ab,qZ0,Aw]
  unfold Ic
  rw[Ad]
  cases (l.getD k zVal).2.1<;>rfl) (by
  unfold LQ
  simp only
  rw[Ax])
 unfold K5 QR
 rcases key with ⟨k1,k2⟩ | ⟨k1,k,k2⟩
 ·rw[k2,k1];rfl
 ·rw[k2,k1]
  simp only[Ad,Bk,Bl,Ap,AA]
  rw[qZ10 (by omega)]
theorem AGC (vs:List SV):((vs.map encS).any fun v=>!v.2.1)=!vs.all Ck:=by
 induction vs with
 |nil=>rfl
 |cons v vs ih=>simp only[List.map_cons,List.any_cons,List.all_cons,ih,EI,Bool.not_and]
theorem AHm (vs:List SV):((vs.map encS).any fun v=>v.2.1)=vs.any Ck:=by
 induction vs with
 |nil=>rfl
 |cons v vs ih=>simp only[List.map_cons,List.any_cons,ih,EI]
theorem AEh (l1:List Ae) (t4:Ae) (L:List SV) (hL:L.length<=100000):∀ (vs pre:List SV) (a B:Nat) (r:Rat),L=pre++vs->(∀ v∈vs,Ay v=2\/Ay v=3)->Ht a r->Hs vs B->a+B<=400000->
 Am Lk (l1,t4,An r,L.map encS,(L.length:Int),(pre.length:Int),())=some (.exit 1,(l1,t4,An (vs.foldl (fun s v=>s+A5 v) r),L.map encS,(L.length:Int),(L.length:Int),())):=by
 intro vs
 induction vs with
 |nil=>
  intro pre a B r hL' _ _ _ _
  have:pre.length=L.length:=by rw[hL'];simp
  refine AY ?_ (by simp)
  unfold Lk
  simp only
  rw[Ax,this]
  rfl
 |cons w vs ih=>
  intro pre a B r hL' hs hr hB hab
  obtain ⟨b,c,h1,h2,h3,h4⟩:=hB
  have hlen:L.length=pre.length+(vs.length+1):=by rw[hL'];simp
  have hg:(L.map encS).getD pre.length zVal=encS w:=by
   rw[Un (by omega),hL'];simp[qZ4]
  have hw:=CG h2 h1
  rw[AZ (y:=(l1,t4,An (r+A5 w),L.map encS,(L.length:Int),((pre++[w]).length:Int),())) (by
   unfold Lk
   simp only
   rw[As,Ak,Ab,Ab (by rw[List.length_map];omega),qZ0,hg,DL (hs w (by simp)),ALJ (by have:=hr.D;omega) (by have:=hw.D;omega),Ad,Aw]
   simp)]
  rw[ih (pre++[w]) (a+b+1) c (r+A5 w) (by rw[hL'];simp) (fun v hv=>hs v (by simp[hv])) (O8 hr hw) h3 (by omega)]
  rfl
theorem W9 (p q:Rat):(p - q).num.sign<=0 ↔ p<=q:=by
 have h1:(p - q).num.sign<=0 ↔ 0<=(-(p - q)).num:=by
  rw[Rat.neg_num]
  rcases Int.lt_trichotomy (p - q).num 0 with h | h | h
  ·rw[Int.sign_eq_neg_one_of_neg h];omega
  ·rw[h];simp
  ·rw[Int.sign_eq_one_of_pos h];omega
 rw[h1,Rat.num_nonneg]
 grind
theorem S5 (p q:Rat):(p - q).num.sign < 0 ↔ p < q:=by
 have h1:(p - q).num.sign < 0 ↔ ¬ 0<=(p - q).num:=by
  rw[Py];omega
 rw[h1,Rat.num_nonneg]
 grind
theorem Ew {m:Nat} {z:Int} (h:Ht m (z:Rat)):(ti z).length<=m+1:=by
 have h1:=h.num
 rw[Rat.num_intCast] at h1
 have:=Rp (n:=z)
 unfold ti;omega
theorem Om {B:Nat} {d:Int} {P:KV} (h:C0 B (.a d P)) (hB:B<=99999):Sm 100000 d P:=by
 obtain ⟨h1,h2,h3⟩:=h
 exact ⟨by have:=Ew h1;omega,fun p hp=>⟨by have:=Ew (h2 p hp).1;omega,by have:=Ew (h2 p hp).2;omega⟩,by omega⟩
theorem WE:∀ (vs:List SV) (r:Rat),r.den=1->(∀ v∈vs,Ay v=2)->(vs.foldl (fun s v=>s+A5 v) r).den=1:=by
 intro vs
 induction vs with
 |nil=>intro r h _;exact h
 |cons v vs ih=>
  intro r h hv
  refine ih _ ?_ fun w hw=>hv w (by simp[hw])
  show (r+A5 v).den=1
  rw[OB h,(C4 (hv v (by simp))).2.2,<-Rat.intCast_add,Rat.den_intCast]
theorem Mw {n:Ac} (hf:Bq n=true) (ho:nOp n=16\/nOp n=17):∃ m:Int,0 < m/\Bg n=An (m:Rat)/\(B2 n).num=m:=by
 unfold Bq at hf
 rw[if_neg (by omega),if_neg (by omega),if_pos ho] at hf
 simp only[qY0,decide_eq_true_eq] at hf
 obtain ⟨⟨_,h1⟩,h2⟩:=hf
 obtain ⟨m,h3,h4⟩:=DV h1
 refine ⟨m,?_,h3,by unfold B2;rw[h4];exact Rat.num_intCast m⟩
 unfold CH at h2
 rw[h4] at h2
 simp only[Rat.num_intCast] at h2
 rcases Int.lt_trichotomy m 0 with h | h | h
 ·rw[Int.sign_eq_neg_one_of_neg h] at h2;omega
 ·rw[h] at h2;simp at h2
 ·exact h
theorem PT {n:Ac} (hf:Bq n=true) (ho:nOp n=3):(A3 n=2\/A3 n=3)/\Bg n=An (B2 n)/\(A3 n=2->(B2 n).den=1):=by
 unfold Bq at hf
 rw[if_pos ho] at hf
 simp only[qY0,Bool.or_eq_true,decide_eq_true_eq] at hf
 unfold B2
 rcases hf.2 with ⟨h1,h2⟩ | ⟨h1,h2⟩
 ·obtain ⟨m,h3,h4⟩:=DV h2
  rw[h4]
  exact ⟨.inl h1,h3,fun _=>Rat.den_intCast m⟩
 ·obtain ⟨q,h3⟩:=Option.isSome_iff_exists.1 h2
  rw[h3]
  exact ⟨.inr h1,DM h3,fun e=>by omega⟩
theorem i0:(0:Int).toNat=0:=rfl
theorem i1:(1:Int).toNat=1:=rfl
theorem i2:(2:Int).toNat=2:=rfl
theorem AKL {n:Ac} {vs:List SV} {B:Nat} {f:Int} (hn:Bq n=true) (h4:nOp n≠4) (h5:nOp n≠5) (hbig:nOp n=3\/14<=nOp n) (hc:AH (nOp n) vs.length=true) (hs:AQ n f (vs.map Ay)≠0)
 (hok:∀ v∈vs,Cw v) (hB:Hs vs B) (hB9:B<=90000) (hnn:Ht 75 (B2 n)) (hl:vs.length<=100000):NQ n (vs.map encS)=some ((encS (Br n vs),()),()):=by
 have hop:1<=nOp n/\nOp n<=20:=by
  unfold Bq at hn
  split at hn
  ·omega
  ·split at hn
   ·omega
   ·split at hn
    ·omega
    ·simp only[qY0,decide_eq_true_eq] at hn
     exact hn.1.1.1
 unfold NQ
 have hO:n.1=nOp n:=rfl
 have hN:n.2.2.2.1=Bg n:=rfl
 have hS:n.2.1=A3 n:=rfl
 rw[hO,hN,hS]
 by_cases e3:nOp n=3
 ·rw[Aq e3]
  obtain ⟨a1,a2,a3⟩:=PT hn e3
  have:Br n vs=C8 (A3 n) (B2 n):=by unfold Br;simp[e3]
  rw[this,IP a1 a3,a2]
  rfl
 rw[Ag e3]
 have hv:Br n vs=if nOp n=14 then C8 (Ay (vs.getD 0 (.b false))) (Kg vs)
  else if nOp n=15 then C8 (Ay (vs.getD 0 (.b false))) (A5 (vs.getD 0 (.b false)) * A5 (vs.getD 1 (.b false)))
  else if nOp n=16 then .z (intV (vs.getD 0 (.b false)) / (B2 n).num)
  else if nOp n=17 then .z (intV (vs.getD 0 (.b false)) % (B2 n).num)
  else if nOp n=18 then .z (N' (vs.getD 0 (.b false)) (intV (vs.getD 1 (.b false))))
  else if nOp n=19 then NK (vs.getD 0 (.b false)) (intV (vs.getD 1 (.b false))) (intV (vs.getD 2 (.b false)))
  else .a (intV (vs.getD 0 (.b false))) []:=by
  unfold Br
  rw[if_neg (by omega),if_neg (by omega),if_neg (by omega),if_neg (by omega),if_neg (by omega),if_neg (by omega),if_neg (by omega),if_neg (by omega),if_neg e3]
 rw[hv]
 have hst:AQ n f (vs.map Ay)=if nOp n=14 then (if ((vs.map Ay).getD 0 0=2\/(vs.map Ay).getD 0 0=3)/\∀ s∈vs.map Ay,s=(vs.map Ay).getD 0 0 then (vs.map Ay).getD 0 0 else 0)
  else if nOp n=15 then (if f=3/\((vs.map Ay).getD 0 0=2\/(vs.map Ay).getD 0 0=3)/\∀ s∈vs.map Ay,s=(vs.map Ay).getD 0 0 then (vs.map Ay).getD 0 0 else 0)
  else if nOp n=16\/nOp n=17 then (if (vs.map Ay).getD 0 0=2 then 2 else 0)
  else if nOp n=18 then (if (vs.map Ay).getD 0 0=4/\(vs.map Ay).getD 1 0=2 then 2 else 0)
  else if nOp n=19 then (if (vs.map Ay).getD 0 0=4/\(vs.map Ay).getD 1 0=2/\(vs.map Ay).getD 2 0=2 then 4 else 0)
  else if nOp n=20 then (if (vs.map Ay).getD 0 0=2 then 4 else 0) else 0:=by
  unfold AQ
  rw[if_neg (by omega),if_neg (by omega),if_neg (by omega),if_neg (by omega),if_neg (by omega)]
 rw[hst] at hs
 clear hv hst
 by_cases e14:nOp n=14
 ·rw[e14] at hc
  rw[if_pos e14] at hs
  rw[Aq e14,if_pos e14]
  rcases vs with _ | ⟨a,l⟩
  ·simp[AH] at hc
  ·simp only[List.map_cons,qZ3] at hs ⊢
   split at hs
   ·rename_i hh
    obtain ⟨g1,g2⟩:=hh
    have hall:∀ v∈a::l,Ay v=Ay a:=fun v hv=>g2 (Ay v) (by
     rcases List.mem_cons.1 hv with rfl | hv
     ·simp
     ·exact qY13 _ (List.mem_map_of_mem hv))
    have h0:Ht 1 ((0:Int):Rat):=Ee (by simp[BC])
    have key:=AEh (encS a::l.map encS) ((0:Int),false,([]:qBs),([]:List qBs),([]:List qBs)) (a::l) hl (a::l) [] 1 B ((0:Int):Rat) rfl (fun v hv=>by rw[hall v hv];exact g1) h0 hB (by omega)
    rw[<-t0] at key
    simp only[List.length_nil,List.map_cons] at key
    rw[show ((0:Nat):Int)=0 from rfl] at key
    have hlen:(encS a::l.map encS).length=(a::l).length:=by simp
    rw[hlen,key]
    simp only[Ad,AX,Ap]
    rw[Ak,Ab,Ab (by simp),i0,qZ3]
    have:Gp (encS a).1 (An ((a::l).foldl (fun s v=>s+A5 v) ((0:Int):Rat)))=some (((Ay a,false,An ((a::l).foldl (fun s v=>s+A5 v) ((0:Int):Rat)),[],[]),()),()):=by rw[FC];rfl
    rw[this,Ad]
    have e:Kg (a::l)=(a::l).foldl (fun s v=>s+A5 v) ((0:Int):Rat):=rfl
    rw[e,IP g1 fun h2=>WE _ _ (Rat.den_intCast 0) fun v hv=>by rw[hall v hv];exact h2]
   ·exact absurd rfl hs
 rw[if_neg e14] at hs
 rw[Ag e14,if_neg e14]
 by_cases e15:nOp n=15
 ·rw[e15] at hc
  rw[if_pos e15] at hs
  rw[Aq e15,if_pos e15]
  rcases vs with _ | ⟨a,_ | ⟨b,_ | ⟨c,l⟩⟩⟩<;>simp[AH] at hc
  ·simp only[List.map_cons,List.map_nil,qZ3,qZ2] at hs ⊢
   split at hs
   ·rename_i hh
    obtain ⟨_,g1,g2⟩:=hh
    have hb:Ay b=Ay a:=g2 _ (by simp)
    obtain ⟨x,c,q1,q2,⟨y,c2,q5,q6,q7,q8⟩,q4⟩:=hB
    have ha':=CG q2 q1
    have hb':=CG q6 q5
    rw[Ak,Ab,Ab (by simp),Ak,Ab,Ab (by simp),Ak,Ab,Ab (by simp),i0,i1,qZ2,qZ3,qZ3,
     DL g1,DL (by rw[hb];exact g1),AAI (by have:=ha'.D;omega) (by have:=hb'.D;omega),Ad,FC]
    rw[IP g1 fun h2=>by
     rw[(C4 h2).2.2,(C4 (hb.trans h2)).2.2,<-Rat.intCast_mul,Rat.den_intCast]]
    rfl
   ·exact absurd rfl hs
  ·omega
 rw[if_neg e15] at hs
 rw[Ag e15,if_neg e15]
 by_cases e16:nOp n=16
 ·rw[e16] at hc
  rw[if_pos (.inl e16)] at hs
  rw[Aq e16,if_pos e16]
  obtain ⟨m,m1,m2,m3⟩:=Mw hn (.inl e16)
  rcases vs with _ | ⟨a,_ | ⟨b,l⟩⟩<;>simp[AH] at hc
  ·simp only[List.map_cons,List.map_nil,qZ3] at hs ⊢
   split at hs
   ·rename_i hh
    have hi:=C4 hh
    have h1:=(Fw ((hB.mem a (by simp)).mono (Nat.le_add_right B 1)) (by omega)).D
    have h2:=(HV hnn).D
    rw[m3] at h2
    rw[Ak,Ab,Ab (by simp),i0,qZ3,hi.2.1,m2,m3]
    unfold ti
    rw[AD3 (by omega) (by omega) (by omega),Ad]
    rfl
   ·exact absurd rfl hs
  ·omega
 rw[Ag e16,if_neg e16]
 by_cases e17:nOp n=17
 ·rw[e17] at hc
  rw[if_pos (.inr e17)] at hs
  rw[Aq e17,if_pos e17]
  obtain ⟨m,m1,m2,m3⟩:=Mw hn (.inr e17)
  rcases vs with _ | ⟨a,_ | ⟨b,l⟩⟩<;>simp[AH] at hc
  ·simp only[List.map_cons,List.map_nil,qZ3] at hs ⊢
   split at hs
   ·rename_i hh
    have hi:=C4 hh
    have h1:=(Fw ((hB.mem a (by simp)).mono (Nat.le_add_right B 1)) (by omega)).D
    have h2:=(HV hnn).D
    rw[m3] at h2
    rw[Ak,Ab,Ab (by simp),i0,qZ3,hi.2.1,m2,m3]
    unfold ti
    rw[AAd (by omega) (by omega) (by omega),Ad]
    rfl
   ·exact absurd rfl hs
  ·omega
 rw[if_neg (by omega)] at hs
 rw[Ag e17,if_neg e17]
 by_cases e18:nOp n=18
 ·rw[e18] at hc
  rw[if_pos e18] at hs
  rw[Aq e18,if_pos e18]
  rcases vs with _ | ⟨a,_ | ⟨b,_ | ⟨c,l⟩⟩⟩<;>simp[AH] at hc
  ·simp only[List.map_cons,List.map_nil,qZ3,qZ2] at hs ⊢
   split at hs
   ·rename_i hh
    obtain ⟨d,P,rfl⟩:=Nz hh.1
    have hP:Canon d P:=hok _ (List.mem_cons_self)
    have hi:=C4 hh.2
    have hsm:=Om (hB.mem (.a d P) (by simp)) (by omega)
    have h1:=Ew (Fw ((hB.mem b (by simp)).mono (Nat.le_add_right B 1)) (by omega))
    rw[Ak,Ab,Ab (by simp),Ak,Ab,Ab (by simp),i0,i1,qZ2,qZ3,qZ3,hi.2.1]
    have e:encS (.a d P)=AI d P:=rfl
    rw[e,ABS (N:=100000) (by omega) hP.incr hsm (by omega),Ad]
    rfl
   ·exact absurd rfl hs
  ·omega
 rw[if_neg e18] at hs
 rw[Ag e18,if_neg e18]
 by_cases e19:nOp n=19
 ·rw[e19] at hc
  rw[if_pos e19] at hs
  rw[Aq e19,if_pos e19]
  rcases vs with _ | ⟨a,_ | ⟨b,_ | ⟨c,_ | ⟨d,l⟩⟩⟩⟩<;>simp[AH] at hc
  ·simp only[List.map_cons,List.map_nil,qZ3,qZ2] at hs ⊢
   split at hs
   ·rename_i hh
    obtain ⟨d,P,rfl⟩:=Nz hh.1
    have hP:Canon d P:=hok _ (List.mem_cons_self)
    have hi:=C4 hh.2.1
    have hj:=C4 hh.2.2
    have hsm:=Om (hB.mem (.a d P) (by simp)) (by omega)
    have h1:=Ew (Fw ((hB.mem b (by simp)).mono (Nat.le_add_right B 1)) (by omega))
    rw[Ak,Ab,Ab (by simp),Ak,Ab,Ab (by simp),Ak,Ab,Ab (by simp),i0,i1,i2,qZ2,qZ2,qZ2,qZ3,qZ3,qZ3,hi.2.1,hj.2.1]
    have e:encS (.a d P)=AI d P:=rfl
    rw[e,AIu (N:=100000) (by omega) hP.incr hsm (by omega),Ad]
    rfl
   ·exact absurd rfl hs
  ·omega
 rw[if_neg e19] at hs
 rw[Ag e19,if_neg e19]
 have e20:nOp n=20:=by omega
 rw[e20] at hc
 rw[if_pos e20] at hs
 rcases vs with _ | ⟨a,_ | ⟨b,l⟩⟩<;>simp[AH] at hc
 ·simp only[List.map_cons,List.map_nil,qZ3] at hs ⊢
  split at hs
  ·rename_i hh
   have hi:=C4 hh
   rw[Ak,Ab,Ab (by simp),i0,qZ3,hi.2.1]
   rfl
  ·exact absurd rfl hs
 ·omega
theorem AHJ {B:Nat} {a b:SV} (h:C0 B a) (hB:B<=90000):Hk (encS a) (encS b)=some ((decide (encS a=encS b),()),()):=by
 cases a with
 |a d P=>
  have:=h.2.2
  exact Lw (by simp only[encS,Bj];omega) (by simp only[encS,B_];omega)
 |b x=>exact Lw (by simp[encS]) (by simp[encS])
 |z x=>exact Lw (by simp[encS]) (by simp[encS])
 |q x=>exact Lw (by simp[encS]) (by simp[encS])
theorem YC (a b:SV) {i:Decidable (a=b)}:decide (encS a=encS b)=@decide (a=b) i:=by
 rw[decide_eq_decide]
 exact ⟨Tq,fun e=>by rw[e]⟩
theorem ACU {n:Ac} {vs:List SV} {B:Nat} {f:Int} (hn:Bq n=true) (h4:nOp n≠4) (h5:nOp n≠5) (hc:AH (nOp n) vs.length=true) (hs:AQ n f (vs.map Ay)≠0)
 (hok:∀ v∈vs,Cw v) (hB:Hs vs B) (hB9:B<=90000) (hnn:Ht 75 (B2 n)) (hl:vs.length<=100000):LW n (vs.map encS)=some ((encS (Br n vs),()),()):=by
 have hlm:(vs.map encS).length<=1000000000:=by rw[List.length_map];omega
 have htr:∀ b:Bool,Ef b=some ((encS (.b b),()),()):=fun b=>rfl
 by_cases hbig:nOp n=3\/14<=nOp n
 ·unfold LW
  have hO:n.1=nOp n:=rfl
  rw[hO,Ag,Ag,Ag,Ag,Ag,Ag,Ag,Ag,Ag,Ag,
   AKL hn h4 h5 hbig hc hs hok hB hB9 hnn hl,Ad]
 unfold LW Br
 have hO:n.1=nOp n:=rfl
 rw[hO]
 simp only[ALG hlm,AHF hlm,AGC,AHm,Ad,htr,Bool.not_not]
 by_cases e1:nOp n=1
 ·rw[Aq e1,if_pos (.inl e1)]
 rw[Ag e1]
 by_cases e7:nOp n=7
 ·rw[Aq e7,if_pos (.inr e7)]
 rw[Ag e7,if_neg (by omega)]
 by_cases e2:nOp n=2
 ·rw[Aq e2,if_pos (.inl e2)]
 rw[Ag e2]
 by_cases e8:nOp n=8
 ·rw[Aq e8,if_pos (.inr e8)]
 rw[Ag e8,if_neg (by omega)]
 by_cases e6:nOp n=6
 ·rw[e6] at hc
  rw[Aq e6,if_pos e6]
  rcases vs with _ | ⟨a,_ | ⟨b,l⟩⟩<;>simp[AH] at hc
  ·simp only[List.map_cons,List.map_nil,qZ3]
   rw[Ak,Ab,Ab (by simp),i0,qZ3]
   unfold Hh
   rw[Ad,EI]
  ·omega
 rw[Ag e6,if_neg e6]
 by_cases e9:nOp n=9
 ·rw[e9] at hc
  rw[Aq e9,if_pos e9]
  rcases vs with _ | ⟨a,_ | ⟨b,_ | ⟨c,l⟩⟩⟩<;>simp[AH] at hc
  ·simp only[List.map_cons,List.map_nil,qZ3,qZ2]
   rw[Ak,Ab,Ab (by simp),Ak,Ab,Ab (by simp),i0,i1,qZ2,qZ3,qZ3]
   unfold Hh Ic
   simp only[Ad,EI,htr]
   cases Ck a<;>rfl
  ·omega
 rw[Ag e9,if_neg e9]
 by_cases e10:nOp n=10
 ·rw[e10] at hc
  rw[Aq e10,if_pos e10]
  rcases vs with _ | ⟨a,_ | ⟨b,_ | ⟨c,_ | ⟨d,l⟩⟩⟩⟩<;>simp[AH] at hc
  ·simp only[List.map_cons,List.map_nil,qZ3,qZ2]
   rw[Ak,Ab,Ab (by simp),Ak,Ab,Ab (by simp),Ak,Ab,Ab (by simp),i0,i1,i2,qZ2,qZ2,qZ2,qZ3,qZ3,qZ3]
   unfold Ic
   simp only[Ad,EI]
   cases Ck a<;>rfl
  ·omega
 rw[Ag e10,if_neg e10]
 by_cases e11:nOp n=11
 ·rw[e11] at hc
  rw[Aq e11,if_pos e11]
  rcases vs with _ | ⟨a,_ | ⟨b,_ | ⟨c,l⟩⟩⟩<;>simp[AH] at hc
  ·simp only[List.map_cons,List.map_nil,qZ3,qZ2]
   rw[Ak,Ab,Ab (by simp),Ak,Ab,Ab (by simp),i0,i1,qZ2,qZ3,qZ3,AHJ (hB.mem a (by simp)) hB9,Ad]
   simp only[qZ3,qZ2]
   exact congrArg (fun x=>some ((encS (SV.b x),()),())) (YC a b)
  ·omega
 rw[Ag e11,if_neg e11]
 have hnum:nOp n=12\/nOp n=13->∃ a b,vs=[a,b]/\(Ay a=2\/Ay a=3)/\(Ay b=2\/Ay b=3):=by
  intro ho
  have hc2:vs.length=2:=by
   rcases ho with ho | ho<;>rw[ho] at hc<;>simp[AH] at hc<;>omega
  unfold AQ at hs
  rw[if_neg (by omega),if_neg (by omega),if_neg (by omega),if_neg (by omega),if_pos ho] at hs
  rcases vs with _ | ⟨a,_ | ⟨b,_ | ⟨c,l⟩⟩⟩<;>simp at hc2
  ·simp only[List.map_cons,List.map_nil,qZ3] at hs
   split at hs
   ·rename_i hh
    have hb:Ay b=Ay a:=hh.2 _ (by simp)
    exact ⟨a,b,rfl,hh.1,by rw[hb];exact hh.1⟩
   ·exact absurd rfl hs
 by_cases e12:nOp n=12
 ·obtain ⟨a,b,rfl,ha,hb⟩:=hnum (.inl e12)
  have qa:=(CG ((hB.mem a (by simp)).mono (Nat.le_add_right B 1)) (by omega)).D
  have qb:=(CG ((hB.mem b (by simp)).mono (Nat.le_add_right B 1)) (by omega)).D
  rw[Aq e12,if_pos e12]
  simp only[List.map_cons,List.map_nil,qZ3,qZ2]
  rw[Ak,Ab,Ab (by simp),Ak,Ab,Ab (by simp),i0,i1,qZ2,qZ3,qZ3,DL ha,DL hb,YN (by omega) (by omega),Ad]
  simp only[qZ3,qZ2]
  have e:decide ((A5 a - A5 b).num.sign<=0)=decide (A5 a<=A5 b):=by rw[decide_eq_decide];exact W9 _ _
  rw[e]
 rw[Ag e12,if_neg e12]
 by_cases e13:nOp n=13
 ·obtain ⟨a,b,rfl,ha,hb⟩:=hnum (.inr e13)
  have qa:=(CG ((hB.mem a (by simp)).mono (Nat.le_add_right B 1)) (by omega)).D
  have qb:=(CG ((hB.mem b (by simp)).mono (Nat.le_add_right B 1)) (by omega)).D
  rw[Aq e13,if_pos e13]
  simp only[List.map_cons,List.map_nil,qZ3,qZ2]
  rw[Ak,Ab,Ab (by simp),Ak,Ab,Ab (by simp),i0,i1,qZ2,qZ3,qZ3,DL ha,DL hb,YN (by omega) (by omega),Ad]
  simp only[qZ3,qZ2]
  have e:decide ((A5 a - A5 b).num.sign < 0)=decide (A5 a < A5 b):=by rw[decide_eq_decide];exact S5 _ _
  rw[e]
 exfalso
 clear hO hnum htr hs
 unfold Bq at hn
 rw[if_neg (by omega),if_neg (by omega),if_neg (by omega)] at hn
 simp only[qY0,decide_eq_true_eq] at hn
 omega
abbrev Em:=List (qBs×Ae)
abbrev Fm:=List (qBs×Interp)
structure EM (A:qBs->Option SV) (G:Ac->List SV->Int ⊕ SV) (env:Em) (fns:Fm):Prop where
 var:∀ nm,AK nm env=(A nm).map encS
 call:∀ t p n vs B,Hs vs B->B<=90000->MW (t,p,env,fns) n (vs.map encS)=some ((match G n vs with | .inl e=>(zVal,e,()) | .inr v=>(encS v,0,())),((t,p,env,fns),()))
def Xy (A:qBs->Option SV) (G:Ac->List SV->Int ⊕ SV) (env:Em) (fns:Fm) (t:List Ac) (nx:Co->Option ((Ae×Int×Unit)×(Co×Unit))) (d:Nat):Prop:=
 ∀ (n:Ac) (k:Tf) (p:Nat) (rest:List Ac),t.drop p=n::(k.flat++rest)->(cons n k nil).wf=true->(0:Int)∉(cons n k nil).srt->D_ (cons n k nil)->k.dep+1<=d->
  match evF A G (cons n k nil) with
  |.inl e=>∃ y,nx (t,(p:Int),env,fns)=some ((zVal,e,()),(y,()))
  |.inr [v]=>nx (t,(p:Int),env,fns)=some ((encS v,0,()),((t,((p+1+k.size:Nat):Int),env,fns),()))
  |.inr _=>False
theorem AAv {A:qBs->Option SV} {G:Ac->List SV->Int ⊕ SV} (hE:EA A G) {env:Em} {fns:Fm} {t:List Ac} (ht:t.length<=20000) {nx:Co->Option ((Ae×Int×Unit)×(Co×Unit))} {d:Nat} (hnx:Xy A G env fns t nx d) (m:Ac) :
 ∀ (k:Tf) (p:Nat) (rest:List Ac) (acc:List Ae) (idx:Nat) (K:Int),t.drop p=k.flat++rest->k.wf=true->(0:Int)∉k.srt->D_ k->k.dep<=d->((idx+k.len:Nat):Int)=K->acc.length+k.len<=100000->idx+k.len<=100000->
 match evF A G k with
 |.inl e=>∃ y x,Am (Fp nx) ((t,(p:Int),env,fns),zVal,(0:Int),m,acc,K,(idx:Int),())=some (.ret,(y,zVal,e,m,x))
 |.inr vs=>Am (Fp nx) ((t,(p:Int),env,fns),zVal,(0:Int),m,acc,K,(idx:Int),())=some (.exit 0,((t,((p+k.size:Nat):Int),env,fns),zVal,(0:Int),m,acc++vs.map encS,K,K,())):=by
 intro k
 induction k with
 |nil=>
  intro p rest acc idx K _ _ _ _ _ hK _ _
  simp only[evF]
  simp only[len,Nat.add_zero] at hK
  refine AY ?_ (by simp)
  unfold Fp
  simp only
  rw[Ax,hK]
  simp[size]
 |cons n k r ik ir=>
  intro p rest acc idx K hd hw hs hn hdep hK h1 h2
  obtain ⟨w1,w2,w3,w4⟩:=CF.1 hw
  obtain ⟨s1,s2,s3⟩:=EF.1 hs
  simp only[dep] at hdep
  simp only[len] at hK h1 h2
  simp only[flat,qY5,qZ1] at hd
  have hsing:=hnx n k p (r.flat++rest) hd (CF.2 ⟨w1,w2,w3,rfl⟩) (EF.2 ⟨s1,s2,by simp[srt]⟩) (fun x hx=>hn x (by simp only[flat,qY12,qZ7] at hx ⊢;rcases hx with h | h | h;exact .inl h;exact .inr (.inl h);cases h)) (by omega)
  have hne:∀ e,evF A G (cons n k nil)=.inl e->e≠0:=by
   intro e he
   have hgen:∀ (f:Tf) e,evF A G f=.inl e->e≠0:=by
    intro f
    induction f with
    |nil=>intro e h;simp[evF] at h
    |cons a b c ib ic=>
     intro e h
     simp only[evF] at h
     split at h
     ·rename_i e' hb
      cases h;exact ib _ hb
     ·split at h
      ·rename_i e' hv
       cases h
       unfold E3 at hv
       split at hv
       ·split at hv
        ·cases hv;decide
        ·split at hv
         ·cases hv
         ·cases hv;decide
       ·split at hv
        ·exact hE.er _ _ _ hv
        ·cases hv
      ·split at h
       ·rename_i e' hc
        cases h;exact ic _ hc
       ·cases h
   exact hgen _ e he
  have hlen:p+1+k.size+r.size+rest.length=t.length:=by
   have:=congrArg List.length hd
   simp only[List.length_drop,qY11,qZ6,BN] at this
   omega
  have hd':t.drop (p+1+k.size)=r.flat++rest:=by
   have:=congrArg (List.drop (1+k.size)) hd
   rw[List.drop_drop] at this
   have e:p+(1+k.size)=p+1+k.size:=by omega
   rw[e] at this
   rw[this,Nat.add_comm 1,List.drop_succ_cons,List.drop_append_of_le_length (by rw[BN];omega),qY7 (by rw[BN];omega),qY15]
  have hsplit:evF A G (cons n k r)=match evF A G (cons n k nil) with
   |.inl e=>.inl e
   |.inr us=>match evF A G r with
    |.inl e=>.inl e
    |.inr ws=>.inr (us++ws):=by
   simp only[evF]
   cases evF A G k with
   |inl e=>rfl
   |inr vs=>
    simp only
    cases E3 A G n vs with
    |inl e=>rfl
    |inr v=>
     simp only
     cases evF A G r<;>rfl
  rw[hsplit]
  cases he:evF A G (cons n k nil) with
  |inl e=>
   rw[he] at hsing
   obtain ⟨y,hy⟩:=hsing
   simp only
   refine ⟨y,_,AY (y:=(y,zVal,e,m,acc,K,(idx:Int),())) ?_ (by simp)⟩
   unfold Fp
   simp only
   rw[As,hy,Ad,Bu (hne e he)]
  |inr us=>
   rw[he] at hsing
   match us,hsing with
   |[v],hsing=>
    simp only at hsing ⊢
    have hgo:Fp nx ((t,(p:Int),env,fns),zVal,(0:Int),m,acc,K,(idx:Int),())=some (.normal,((t,((p+1+k.size:Nat):Int),env,fns),zVal,(0:Int),m,acc++[encS v],K,((idx+1:Nat):Int),())):=by
     unfold Fp
     simp only
     rw[As,hsing,Ad,Bm rfl,Ab (by simp[Av];omega),Aw]
     rfl
    have ihr:=ir (p+1+k.size) rest (acc++[encS v]) (idx+1) K hd' w4 s3 (fun x hx=>hn x (by simp only[flat,qY12,qZ7];exact .inr (.inr hx))) (by omega) (by omega) (by simp;omega) (by omega)
    cases hr:evF A G r with
    |inl e=>
     rw[hr] at ihr
     obtain ⟨y,x,h⟩:=ihr
     exact ⟨y,x,by rw[AZ hgo,h]⟩
    |inr ws=>
     rw[hr] at ihr
     simp only at ihr ⊢
     rw[AZ hgo,ihr]
     have e:p+1+k.size+r.size=p+(cons n k r).size:=by simp only[size];omega
     rw[e]
     simp
theorem AJN {A:qBs->Option SV} {G:Ac->List SV->Int ⊕ SV} (hE:EA A G) {env:Em} {fns:Fm} (hM:EM A G env fns) {t:List Ac} (ht:t.length<=1100) :
 ∀ d,Xy A G env fns t (E7 d) d:=by
 intro d
 induction d with
 |zero=>intro n k p rest _ _ _ _ h;omega
 |succ d ih=>
  intro n k p rest hd hw hs hn hdep
  obtain ⟨w1,w2,w3,w4⟩:=CF.1 hw
  obtain ⟨s1,s2,s3⟩:=EF.1 hs
  obtain ⟨g1,g2⟩:=Ff (d:=Az) hd
  have hnk:D_ k:=fun m hm=>hn m (by simp only[flat,qY12,qZ7];exact .inr (.inl hm))
  have hd':t.drop (p+1)=k.flat++rest:=by
   have:=congrArg (List.drop 1) hd
   rw[List.drop_drop] at this
   simpa using this
  have hlen:p+1+k.size+rest.length=t.length:=by
   have:=congrArg List.length hd
   simp only[List.length_drop,qY11,qZ6,BN] at this
   omega
  have hkl:=Es k
  have hkids:=AAv hE (by omega) ih n k (p+1) rest [] 0 (k.len:Int) hd' w3 s1 hnk (by omega) (by simp) (by simp;omega) (by omega)
  have hK:n.2.2.2.2=(k.len:Int):=w2
  have hwp:qI ((p:Int)+1)=((p+1:Nat):Int):=by rw[Aw];rfl
  have hunf:E7 (d+1) (t,(p:Int),env,fns)=OC (E7 d) (t,(p:Int),env,fns):=rfl
  rw[hunf]
  unfold OC
  simp only
  rw[Ak,Ab,Ab,qZ0,g1,hK,hwp]
  rw[show ((0:Nat):Int)=0 from rfl] at hkids
  simp only[evF]
  cases hk:evF A G k with
  |inl e=>
   rw[hk] at hkids
   obtain ⟨y,x,h⟩:=hkids
   simp only
   refine ⟨y,?_⟩
   have h':Am (Fp (E7 d)) ((t,((p+1:Nat):Int),env,fns),((0:Int),false,([]:qBs),([]:List qBs),([]:List qBs)),0,n,([]:List Ae),(k.len:Int),0,())=some (.ret,(y,zVal,e,n,x)):=h
   rw[h']
   simp only[Ad,Bk,Bl,Ap,AA]
  |inr vs=>
   rw[hk] at hkids
   obtain ⟨e1,e2,e3⟩:=AC hE k w3 s1 hnk vs hk
   simp only at hkids ⊢
   have h':Am (Fp (E7 d)) ((t,((p+1:Nat):Int),env,fns),((0:Int),false,([]:qBs),([]:List qBs),([]:List qBs)),0,n,([]:List Ae),(k.len:Int),0,())=some (.exit 0,((t,((p+1+k.size:Nat):Int),env,fns),zVal,(0:Int),n,[]++vs.map encS,(k.len:Int),(k.len:Int),())):=hkids
   rw[h']
   simp only[Ad,AX,Ap,qY15]
   have hO:n.1=nOp n:=rfl
   rw[hO]
   have hvl:vs.length=k.len:=by
    have:=congrArg List.length e1
    rw[List.length_map,DN] at this
    exact this
   unfold E3
   by_cases h4:nOp n=4
   ·rw[Aq h4,if_pos h4]
    unfold PG
    simp only
    have hv:=hM.var n.2.2.1
    have hA:A (Bo n)=A n.2.2.1:=rfl
    rw[hA,hv]
    cases A n.2.2.1 with
    |none=>exact ⟨_,rfl⟩
    |some v=>
     simp only[Option.map_some,Option.isSome_some,qY2,AA,Option.getD_some,FC]
     by_cases q:Ay v=n.2.1
     ·rw[Bm q,if_pos q]
      rfl
     ·rw[Bu q,if_neg q]
      exact ⟨_,rfl⟩
   ·rw[Ag h4,if_neg h4]
    by_cases h5:nOp n=5
    ·rw[Aq h5,if_pos h5,hM.call t _ n vs _ e3 (by omega)]
     cases G n vs with
     |inl e=>exact ⟨_,rfl⟩
     |inr v=>rfl
    ·rw[Ag h5,if_neg h5]
     obtain ⟨f1,f2⟩:=Gu.1 w1
     rw[ACU (f:=op1 k) f1 h4 h5 (by rw[hvl,<-w2];exact f2) (by rw[e1];exact s2) e2 e3 (by omega) (Pv (hn n (by simp[flat]))) (by omega)]
     rfl
open Classical in
noncomputable def Gw (v:Ae):Option SV:=if h:∃ s,Cw s/\v=encS s then some h.choose else none
theorem LJ {v:Ae} (h:AL v=true):∃ s,Gw v=some s/\Cw s/\v=encS s:=by
 have h':=WC.1 h
 refine ⟨h'.choose,?_,h'.choose_spec.1,h'.choose_spec.2⟩
 unfold Gw
 rw[dif_pos h']
theorem VC {v:Ae} {s:SV} (h:Gw v=some s):Cw s/\v=encS s:=by
 unfold Gw at h
 split at h
 ·rename_i hh
  cases h;exact hh.choose_spec
 ·cases h
theorem AMo {s:SV} (h:Cw s):Gw (encS s)=some s:=by
 obtain ⟨s',h1,h2,h3⟩:=LJ (Ru h)
 rw[h1,Tq h3]
structure SmallV (v:Ae):Prop where
 sh:Short 73 v
 few:v.2.2.2.1.length<=75
theorem MN {z:Int} (h:(ti z).length<=73):Ht 75 (z:Rat):=by
 have:=Ik (z:Rat)
 exact O5 (by unfold ti at h;omega)
theorem Sy {s:SV} (h:SmallV (encS s)):C0 75 s:=by
 cases s with
 |b x=>trivial
 |z n=>exact MN h.sh.num
 |q r=>
  have h1:(An r).length<=73:=h.sh.num
  have:=Ik r
  exact O5 (by omega)
 |a d P=>
  have hs:=AJt (d:=d) (P:=P) h.sh
  have hf:(ks P).length<=75:=h.few
  rw[Bj] at hf
  exact ⟨MN hs.num,fun p hp=>⟨MN (hs.els p hp).1,MN (hs.els p hp).2⟩,hf⟩
noncomputable def CX (env:List AN) (nm:qBs):Option SV:=(env.find? fun b=>decide (b.1=nm)).bind fun b=>Gw b.2
def G0:Ac->List SV->Int ⊕ SV:=fun _ _=>.inl 4
theorem AGL {env:List AN} (hs:∀ b∈env,SmallV b.2):EA (CX env) G0:=by
 refine ⟨fun nm v h=>?_,fun n vs v h=>by simp[G0] at h,fun n vs e h=>by simp only[G0,Sum.inl.injEq] at h;subst h;decide⟩
 unfold CX at h
 simp only[Option.bind_eq_some_iff] at h
 obtain ⟨b,h1,h2⟩:=h
 obtain ⟨a1,a2⟩:=VC h2
 exact ⟨a1,Sy (by rw[<-a2];exact hs b (List.mem_of_find?_eq_some h1))⟩
theorem ACX {env:List AN} (hs:∀ b∈env,SmallV b.2) (hl:env.length<=1000000000):∀ (m p:Nat) (out:Em),p+m=env.length->(∀ b∈env.take p,AL b.2=true)->(∀ nm,AK nm out=((env.take p).find? fun b=>decide (b.1=nm)).map (·.2))->
 ((¬ ∀ b∈env,AL b.2=true)/\∃ x,Am Gi (([]:Em),false,out,env,(env.length:Int),(p:Int),())=some (.ret,(([]:Em),false,x)))\/
 ((∀ b∈env,AL b.2=true)/\∃ out' x,(∀ nm,AK nm out'=(env.find? fun b=>decide (b.1=nm)).map (·.2))/\Am Gi (([]:Em),false,out,env,(env.length:Int),(p:Int),())=some (.exit 0,(([]:Em),false,out',x))):=by
 intro m
 induction m with
 |zero=>
  intro p out hp hv ho
  have e:env.take p=env:=List.take_of_length_le (by omega)
  rw[e] at hv ho
  exact .inr ⟨hv,out,_,ho,AY (by unfold Gi;simp only;rw[Ax]) (by simp)⟩
 |succ m ih=>
  intro p out hp hv ho
  have hlt:p < env.length:=by omega
  have hg:env.getD p DO=env[p]:=by simp[qZ4,hlt]
  have hmem:env[p]∈env:=List.getElem_mem hlt
  have htk:env.take (p+1)=env.take p++[env[p]]:=by rw[List.take_add_one,qZ5 hlt];rfl
  generalize env[p]=b at hg hmem htk
  have hvb:=Pj (N:=73) (by omega) (hs b hmem).sh
  by_cases hb:AL b.2=false
  ·refine .inl ⟨fun h=>(by rw[h b hmem] at hb;cases hb),_,AY (by
    unfold Gi
    simp only
    rw[As,Ak,Ab,Ab,qZ0,hg,hvb,Ad]
    rw[hb]
    rfl) (by simp)⟩
  rw[Bool.not_eq_false] at hb
  have hv':∀ c∈env.take (p+1),AL c.2=true:=by
   intro c hc
   rw[htk,qZ7,qZ8] at hc
   rcases hc with hc | rfl
   ·exact hv c hc
   ·exact hb
  have hstep:∃ out',(∀ nm,AK nm out'=((env.take (p+1)).find? fun b=>decide (b.1=nm)).map (·.2))/\Gi (([]:Em),false,out,env,(env.length:Int),(p:Int),())=some (.normal,(([]:Em),false,out',env,(env.length:Int),((p+1:Nat):Int),())):=by
   unfold Gi
   simp only
   rw[As,Ak,Ab,Ab,qZ0,hg,hvb,Ad,hb,Aw]
   simp only[qY2,AA]
   have hob:=ho b.1
   cases hlk:AK b.1 out with
   |none=>
    simp only[Option.isSome_none,qY1,Ap]
    refine ⟨_,fun nm=>?_,rfl⟩
    rw[htk,List.find?_append]
    rw[hlk] at hob
    have hn:(env.take p).find? (fun c=>decide (c.1=b.1))=none:=by
     cases hf:(env.take p).find? (fun c=>decide (c.1=b.1)) with
     |none=>rfl
     |some c=>rw[hf] at hob;cases hob
    by_cases e:nm=b.1
    ·subst e
     rw[HP,hn]
     simp
    ·rw[HM e,ho nm]
     have:[b].find? (fun c=>decide (c.1=nm))=none:=by
      rw[List.find?_eq_none]
      intro c hc
      rw[qZ8] at hc
      subst hc
      simpa using fun h=>e h.symm
     rw[this]
     cases (env.take p).find? (fun c=>decide (c.1=nm))<;>rfl
   |some v=>
    simp only[Option.isSome_some,qY2,AA]
    refine ⟨_,fun nm=>?_,rfl⟩
    rw[htk,List.find?_append,ho nm]
    cases hf:(env.take p).find? (fun c=>decide (c.1=nm)) with
    |some c=>rfl
    |none=>
     have:[b].find? (fun c=>decide (c.1=nm))=none:=by
      rw[List.find?_eq_none]
      intro c hc
      rw[qZ8] at hc
      subst hc
      simp only[decide_eq_true_eq]
      intro h
      rw[hlk,h,hf] at hob
      cases hob
     rw[this]
     rfl
  obtain ⟨out',h1,h2⟩:=hstep
  rw[AZ h2]
  exact ih (p+1) out' (by omega) hv' h1
theorem ALv {env:List AN} (hs:∀ b∈env,SmallV b.2) (hl:env.length<=1000000000) :
 ((¬ ∀ b∈env,AL b.2=true)/\Kh env=some (([],false,()),()))\/((∀ b∈env,AL b.2=true)/\∃ out,(∀ nm,AK nm out=(CX env nm).map encS)/\Kh env=some ((out,true,()),())):=by
 unfold Kh
 rcases ACX hs hl env.length 0 [] (by omega) (fun b hb=>by simp at hb) (fun nm=>by simp[AK]) with ⟨h1,x,h2⟩ | ⟨h1,out,x,h2,h3⟩
 ·rw[show ((0:Nat):Int)=0 from rfl] at h2
  rw[h2]
  simp only[Ad,Bk,Bl,Ap,AA]
  exact .inl ⟨h1,by first | rfl | trivial⟩
 ·rw[show ((0:Nat):Int)=0 from rfl] at h3
  rw[h3]
  simp only[Ad,AX,Ap]
  refine .inr ⟨h1,out,fun nm=>?_,rfl⟩
  rw[h2]
  unfold CX
  cases hf:env.find? (fun b=>decide (b.1=nm)) with
  |none=>rfl
  |some b=>
   obtain ⟨s,s1,s2,s3⟩:=LJ (h1 b (List.mem_of_find?_eq_some hf))
   rw[Option.map_some,Option.bind_some,s1,s3]
   rfl
def EY (t:List Ac):Prop:=∀ n∈t,(Bg n).length<=73
theorem ZK {B:Nat} {v:SV} (h:C0 B v) (hB:B<=90000):IJ (encS v)=some ((encS v,()),()):=by
 cases v with
 |a d P=>have:=h.2.2;exact Ls (by simp only[encS,Bj];omega) (by simp only[encS,B_];omega)
 |b x=>exact Ls (by simp[encS]) (by simp[encS])
 |z x=>exact Ls (by simp[encS]) (by simp[encS])
 |q x=>exact Ls (by simp[encS]) (by simp[encS])
theorem Pe {A:qBs->Option SV} {G:Ac->List SV->Int ⊕ SV} {n:Ac} {k:Tf}:(∃ e,evF A G (cons n k nil)=.inl e)\/∃ v,evF A G (cons n k nil)=.inr [v]:=by
 simp only[evF]
 cases evF A G k with
 |inl e=>exact .inl ⟨e,rfl⟩
 |inr vs=>
  simp only
  cases E3 A G n vs with
  |inl e=>exact .inl ⟨e,rfl⟩
  |inr v=>exact .inr ⟨v,rfl⟩
theorem Rm {A:qBs->Option SV} {G:Ac->List SV->Int ⊕ SV} (hE:EA A G):∀ (f:Tf) e,evF A G f=.inl e->e≠0:=by
 intro f
 induction f with
 |nil=>intro e h;simp[evF] at h
 |cons a b c ib ic=>
  intro e h
  simp only[evF] at h
  split at h
  ·rename_i e' hb
   cases h;exact ib _ hb
  ·split at h
   ·rename_i e' hv
    cases h
    unfold E3 at hv
    split at hv
    ·split at hv
     ·cases hv;decide
     ·split at hv
      ·cases hv
      ·cases hv;decide
    ·split at hv
     ·exact hE.er _ _ _ hv
     ·cases hv
   ·split at h
    ·rename_i e' hc
     cases h;exact ic _ hc
    ·cases h
end Go.AM.Num
end
section
namespace Go.AM.Num
open Tf
structure VSok (VS:List Vr):Prop where
 name:∀ v∈VS,Fn v.1=true/\1<=v.2/\v.2<=4
 once:∀ v∈VS,∀ w∈VS,v.1=w.1->v=w
structure GenF (VS:List Vr) (ss:List Int) (N d:Nat) (l:List Ac) (K:Tf):Prop where
 flat:K.flat=l
 wf:K.wf=true
 srt:K.srt=ss
 nz:(0:Int)∉ss
 sh:EY l
 size:K.size<=N
 dep:K.dep<=d
 vars:∀ x∈l,nOp x=4->(Bo x,A3 x)∈VS
 noap:∀ x∈l,nOp x≠5
def Ba (VS:List Vr) (ss:List Int) (N d:Nat) (l:List Ac):Prop:=∃ K,GenF VS ss N d l K
theorem Ba.nil (VS:List Vr):Ba VS [] 0 0 []:=⟨Tf.nil,rfl,rfl,rfl,by simp,fun _ h=>absurd h qY16,Nat.le_refl _,Nat.le_refl _,fun _ h=>absurd h qY16,fun _ h=>absurd h qY16⟩
theorem Ba.mono {VS:List Vr} {ss:List Int} {N M d e:Nat} {l:List Ac} (h:Ba VS ss N d l) (hN:N<=M) (hd:d<=e):Ba VS ss M e l:=by
 obtain ⟨K,hK⟩:=h
 exact ⟨K,hK.flat,hK.wf,hK.srt,hK.nz,hK.sh,by have:=hK.size;omega,by have:=hK.dep;omega,hK.vars,hK.noap⟩
theorem Ba.app {VS:List Vr} {ss uu:List Int} {N M d:Nat} {l m:List Ac} (h:Ba VS ss N d l) (g:Ba VS uu M d m):Ba VS (ss++uu) (N+M) d (l++m):=by
 obtain ⟨K,hK⟩:=h
 obtain ⟨L,hL⟩:=g
 refine ⟨K.app L,by rw[JK,hK.flat,hL.flat],by rw[KE,hK.wf,hL.wf];rfl,by rw[Ji,hK.srt,hL.srt],?_,?_,?_,?_,?_,?_⟩
 ·rw[qZ7];exact fun h=>h.elim hK.nz hL.nz
 ·exact fun x hx=>(List.mem_append.1 hx).elim (hK.sh x) (hL.sh x)
 ·rw[MI];have:=hK.size;have:=hL.size;omega
 ·rw[Qm];have:=hK.dep;have:=hL.dep;omega
 ·exact fun x hx=>(List.mem_append.1 hx).elim (hK.vars x) (hL.vars x)
 ·exact fun x hx=>(List.mem_append.1 hx).elim (hK.noap x) (hL.noap x)
theorem U4 {K:Tf} {l:List Ac} (h:K.flat=l):op1 K=(l.getD 0 Az).1:=by
 subst h
 cases K<;>rfl
theorem Ba.node {VS:List Vr} {ss:List Int} {N d:Nat} {l:List Ac} (h:Ba VS ss N d l) {n:Ac} {s:Int} (hf:Bq n=true) (hc:AH (nOp n) ss.length=true) (hk:A7 n=(ss.length:Int)) (hs:AQ n (l.getD 0 Az).1 ss=s) (hz:s≠0)
 (hnum:(Bg n).length<=73) (hv:nOp n=4->(Bo n,A3 n)∈VS) (ha:nOp n≠5):Ba VS [s] (N+1) (d+1) (n::l):=by
 obtain ⟨K,hK⟩:=h
 have hl:K.len=ss.length:=by rw[<-DN,hK.srt]
 refine ⟨cons n K Tf.nil,by simp[Tf.flat,hK.flat],CF.2 ⟨Gu.2 ⟨hf,by rw[hk];exact hc⟩,by rw[hl];exact hk,hK.wf,rfl⟩,?_,?_,?_,?_,?_,?_,?_⟩
 ·simp only[Tf.srt,hK.srt]
  rw[if_neg hK.nz,U4 hK.flat,hs]
 ·simp[Ne.symm hz]
 ·intro x hx
  rcases List.mem_cons.1 hx with rfl | hx
  ·exact hnum
  ·exact hK.sh x hx
 ·simp only[Tf.size];have:=hK.size;omega
 ·simp only[Tf.dep];have:=hK.dep;omega
 ·intro x hx
  rcases List.mem_cons.1 hx with rfl | hx
  ·exact hv
  ·exact hK.vars x hx
 ·intro x hx
  rcases List.mem_cons.1 hx with rfl | hx
  ·exact ha
  ·exact hK.noap x hx
theorem AG3 {n:Ac} {k:Tf}:∀ {f:Tf},(n,k)∈f.subs->n∈f.flat:=by
 intro f
 induction f with
 |nil=>intro h;simp[subs] at h
 |cons m a b ia ib=>
  intro h
  simp only[subs,qY12,qZ7,Prod.mk.injEq] at h
  simp only[Tf.flat,qY12,qZ7]
  rcases h with ⟨rfl,_⟩ | h | h
  ·exact .inl rfl
  ·exact .inr (.inl (ia h))
  ·exact .inr (.inr (ib h))
theorem AGU {VS:List Vr} (hV:VSok VS) {s:Int} {N d:Nat} {t:List Ac} {F:Tf} (h:GenF VS [s] N d t F) (hN:N<=20000) (hd:d<=257):VT t F:=by
 refine ⟨h.flat,h.wf,by rw[h.srt];exact h.nz,by rw[<-DN,h.srt];rfl,by have:=h.size;omega,by have:=h.dep;omega,?_⟩
 have key:∀ a∈Dq F,a.2.1=false/\a.2.2.1=[]/\(a.1,a.2.2.2)∈VS:=by
  intro a ha
  obtain ⟨⟨n,k⟩,h1,h2⟩:=List.mem_filterMap.1 ha
  have hm:n∈t:=by rw[<-h.flat];exact AG3 h1
  unfold CK at h2
  split at h2
  ·rename_i h4
   simp only[Option.some.injEq] at h2
   subst h2
   exact ⟨rfl,rfl,h.vars n hm h4⟩
  ·split at h2
   ·rename_i h5
    exact absurd h5 (h.noap n hm)
   ·cases h2
 rintro ⟨a,b,c,e⟩ ha ⟨a',b',c',e'⟩ ha' hn
 obtain ⟨p1,p2,p3⟩:=key _ ha
 obtain ⟨q1,q2,q3⟩:=key _ ha'
 simp only at p1 p2 p3 q1 q2 q3 hn
 have:=hV.once _ p3 _ q3 hn
 simp only[Prod.mk.injEq] at this
 rw[p1,p2,q1,q2,this.1,this.2]
theorem AGz {VS:List Vr} (hV:VSok VS) {nm:qBs} {s:Int} (h:(nm,s)∈VS):Ba VS [s] 1 1 [((4:Int),s,nm,([]:qBs),(0:Int))]:=by
 obtain ⟨h1,h2,h3⟩:=hV.name _ h
 exact (Ba.nil VS).node (by simp[nOp,A3,Bo,Bg,Bq,h1,h2,h3]) rfl rfl (by simp[nOp,A3,AQ]) (by simp only at h2;omega) (by simp[Bg]) (fun _=>h) (by simp[nOp])
theorem KJ {VS:List Vr} {z:Int} (h:(ti z).length<=73):Ba VS [2] 1 1 [((3:Int),(2:Int),([]:qBs),ti z,(0:Int))]:=
 (Ba.nil VS).node (by simp[nOp,A3,Bo,Bg,Bq,FT]) rfl rfl (by simp[nOp,A3,AQ]) (by omega) h (fun h=>by simp[nOp] at h) (by simp[nOp])
theorem Vk {VS:List Vr} {q:Rat} (h:(An q).length<=73):Ba VS [3] 1 1 [((3:Int),(3:Int),([]:qBs),An q,(0:Int))]:=
 (Ba.nil VS).node (by simp[nOp,A3,Bo,Bg,Bq,Ct]) rfl rfl (by simp[nOp,A3,AQ]) (by omega) h (fun h=>by simp[nOp] at h) (by simp[nOp])
theorem Tt {VS:List Vr}:Ba VS [1] 1 1 [((1:Int),(0:Int),([]:qBs),([]:qBs),(0:Int))]:=
 (Ba.nil VS).node (by simp[nOp,A3,Bo,Bg,Bq]) rfl rfl (by simp[nOp,A3,AQ]) (by omega) (by simp[Bg]) (fun h=>by simp[nOp] at h) (by simp[nOp])
theorem Um {VS:List Vr}:Ba VS [1] 1 1 [((2:Int),(0:Int),([]:qBs),([]:qBs),(0:Int))]:=
 (Ba.nil VS).node (by simp[nOp,A3,Bo,Bg,Bq]) rfl rfl (by simp[nOp,A3,AQ]) (by omega) (by simp[Bg]) (fun h=>by simp[nOp] at h) (by simp[nOp])
def alphaB (c:UInt8):Bool:=(decide (97<=c)&&decide (c<=122))||(decide (65<=c)&&decide (c<=90))
theorem ACq (c:UInt8):NZ (c.toNat:Int)=some ((alphaB c,()),()):=by
 refine EP (P:=fun c=>NZ (c.toNat:Int)=some ((alphaB c,()),())) ?_ c
 decide +kernel
theorem WK (c:UInt8):letterB c=(alphaB c||c==95||c==36||c==33):=rfl
theorem AKm (c:UInt8):decide ((c.toNat:Int) < 48)=!decide (48<=c):=by
 refine EP (P:=fun c=>decide ((c.toNat:Int) < 48)=!decide (48<=c)) ?_ c
 decide +kernel
theorem AA6 (c:UInt8):decide ((c.toNat:Int) > 57)=!decide (c<=57):=by
 refine EP (P:=fun c=>decide ((c.toNat:Int) > 57)=!decide (c<=57)) ?_ c
 decide +kernel
theorem AK8 (c:UInt8):((c.toNat:Int)==95)=(c==95):=by
 refine EP (P:=fun c=>((c.toNat:Int)==95)=(c==95)) ?_ c
 decide +kernel
theorem AEA (c:UInt8):((c.toNat:Int)==36)=(c==36):=by
 refine EP (P:=fun c=>((c.toNat:Int)==36)=(c==36)) ?_ c
 decide +kernel
theorem ADn (c:UInt8):((c.toNat:Int)==33)=(c==33):=by
 refine EP (P:=fun c=>((c.toNat:Int)==33)=(c==33)) ?_ c
 decide +kernel
theorem AG0 {l:List qBs} {s:qBs} (hl:l.length<=1000000000):My l s=some ((decide (s∈l),()),()):=by
 have key:=CN (step:=Lp) (fun k=>(l,s,false,(k:Int),())) (fun k=>(l,s,true,(k:Int),())) l.length (E:=.exit 0) (B:=.ret) (by simp) (by simp) (fun k=>!(l.getD k []==s)) (fun k hk=>by
  unfold Lp
  simp only
  rw[As,Ak,Ab,Ab,qZ0,Aw (x:=(k:Int)+1) (by omega)]
  cases (l.getD k []==s)<;>rfl) (by
  unfold Lp
  simp only
  rw[Ax])
 rw[Fd l [] (fun x=>!(x==s))] at key
 rw[show ((0:Nat):Int)=0 from rfl] at key
 unfold My
 rcases key with ⟨k1,k2⟩ | ⟨k1,j,k2⟩
 ·rw[k2]
  simp only[Ad,AX,Ap]
  rw[qZ9]
  intro h
  have:=List.all_eq_true.1 k1 s h
  simp at this
 ·rw[k2]
  simp only[Ad,Bk,Bl,Ap,AA]
  rw[qZ10]
  by_cases h:s∈l
  ·exact h
  ·rw[List.all_eq_true.2 (fun x hx=>by simp;exact fun e=>h (e ▸ hx))] at k1;cases k1
theorem AB0:Rh=some ((JG,()),()):=rfl
theorem ZX {s:qBs} (h:s≠[]):(List.range s.length).all (fun k=>if k=0 then letterB (s.getD 0 0) else FK (s.getD k 0))=(letterB (s.getD 0 0)&&s.all FK):=by
 have hpos:0 < s.length:=List.length_pos_iff.2 h
 rw[<-Fd s 0 FK,Bool.eq_iff_iff,qY0,qY3,qY3]
 constructor
 ·intro hh
  have h0:=hh 0 (List.mem_range.2 hpos)
  simp only[if_true] at h0
  refine ⟨h0,fun k hk=>?_⟩
  have hk':=hh k hk
  by_cases e:k=0
  ·subst e
   unfold FK
   rw[h0];rfl
  ·rw[if_neg e] at hk';exact hk'
 ·rintro ⟨h0,hh⟩ k hk
  split
  ·exact h0
  ·exact hh k hk
theorem AAZ (s:qBs):LB s=some ((Fn s,()),()):=by
 unfold LB
 by_cases h0:s=[]
 ·subst h0;decide
 ·rw[show (s==([]:qBs))=false by simpa using h0,AA]
  have hpos:0 < s.length:=List.length_pos_iff.2 h0
  unfold Fn
  by_cases h1:s.length<=40
  ·rw[Ax,qZ10 h1,AB0,Ad]
   simp only
   rw[AG0 (by decide),Ad,Bool.true_and]
   cases hw:decide (s∈JG) with
   |true=>cases letterB (s.getD 0 0)<;>rfl
   |false=>
    simp only[AA]
    have key:=CN (step:=Mg) (fun k=>(s,false,(k:Int),())) (fun k=>(s,false,(k:Int),())) s.length (E:=.exit 0) (B:=.ret) (by simp) (by simp) (fun k=>if k=0 then letterB (s.getD 0 0) else FK (s.getD k 0)) (fun k hk=>by
     unfold Mg
     simp only
     rw[As,Ak,Ab,Ab,qZ0,ACq,Ad,AKm,AA6,TC,XG,AK8,AEA,ADn,Aw (x:=(k:Int)+1) (by omega)]
     by_cases hk0:k=0
     ·subst hk0
      rw[if_pos rfl,WK]
      generalize alphaB (s.getD 0 0)=a
      generalize (s.getD 0 0==95)=b
      generalize (s.getD 0 0==36)=c
      generalize (s.getD 0 0==33)=d
      cases a<;>cases b<;>cases c<;>cases d<;>rfl
     ·rw[if_neg hk0]
      unfold FK
      rw[WK,Ag (show (k:Int)≠0 by omega)]
      generalize alphaB (s.getD k 0)=a
      generalize (s.getD k 0==95)=b
      generalize (s.getD k 0==36)=c
      generalize (s.getD k 0==33)=d
      generalize decide (48<=s.getD k 0)=e
      generalize decide (s.getD k 0<=57)=f
      generalize (s.getD k 0==46)=g
      generalize (s.getD k 0==64)=h
      cases a<;>cases b<;>cases c<;>cases d<;>cases e<;>cases f<;>cases g<;>cases h<;>rfl) (by
     unfold Mg
     simp only
     rw[Ax])
    rw[ZX h0] at key
    rcases key with ⟨k1,k2⟩ | ⟨k1,j,k2⟩
    ·rw[show ((0:Nat):Int)=0 from rfl] at k2
     rw[k2]
     simp only[Ad,AX,Ap,qY1,Bool.and_true]
     rw[k1]
    ·rw[show ((0:Nat):Int)=0 from rfl] at k2
     rw[k2]
     simp only[Ad,Bk,Bl,Ap,AA,qY1,Bool.and_true]
     rw[k1]
  ·rw[As,qZ9 h1]
   rfl
theorem ACz (s:Int):NX s=some ((decide (1<=s/\s<=4),()),()):=WH s
theorem AHV {n:Ac} (h:(Bg n).length<=100000):OW n=some ((Bq n,()),()):=by
 obtain ⟨o,s,nm,num,kd⟩:=n
 simp only[Bg] at h
 unfold OW Bq
 simp only[nOp,A3,Bo,Bg]
 rw[ACz,AAZ,FQ (by omega),Oi (by omega),Kf (by omega)]
 simp only[Ad,Wb]
 by_cases e3:o=3
 ·rw[Aq e3,if_pos e3]
  by_cases h2:s=2
  ·subst h2
   cases decide (nm=[])<;>cases A2 num<;>rfl
  ·rw[Ag h2,qZ9 h2,Bool.false_and,Bool.false_or]
   by_cases h3:s=3
   ·subst h3;cases decide (nm=[])<;>rfl
   ·rw[Ag h3,qZ9 h3,Bool.false_and];cases decide (nm=[])<;>rfl
 ·rw[Ag e3,if_neg e3]
  by_cases e4:o=4
  ·rw[Aq e4,if_pos (.inl e4)];cases decide (1<=s/\s<=4)<;>cases Fn nm<;>cases decide (num=[])<;>rfl
  ·rw[Ag e4]
   by_cases e5:o=5
   ·rw[Aq e5,if_pos (.inr e5)];cases decide (1<=s/\s<=4)<;>cases Fn nm<;>cases decide (num=[])<;>rfl
   ·rw[Ag e5,if_neg (by omega)]
    by_cases e6:o=16
    ·rw[Aq e6,if_pos (.inl e6)]
     by_cases z:s=0
     ·rw[Aq z,qZ10 z];cases decide (nm=[])<;>cases A2 num<;>rfl
     ·rw[Ag z,qZ9 z];rfl
    ·rw[Ag e6]
     by_cases e7:o=17
     ·rw[Aq e7,if_pos (.inr e7)]
      by_cases z:s=0
      ·rw[Aq z,qZ10 z];cases decide (nm=[])<;>cases A2 num<;>rfl
      ·rw[Ag z,qZ9 z];rfl
     ·rw[Ag e7,if_neg (by omega)]
      by_cases g1:o>=1
      ·rw[As g1]
       by_cases g2:o<=20
       ·rw[As g2,qZ10 (show 1<=o/\o<=20 from ⟨g1,g2⟩)]
        by_cases z:s=0
        ·rw[Aq z,qZ10 z];cases decide (nm=[])<;>rfl
        ·rw[Ag z,qZ9 z];rfl
       ·rw[Ax g2,qZ9 (by omega)];rfl
      ·rw[Ax g1,qZ9 (by omega)];rfl
theorem ADd (o k:Int):J8 o k=some ((AH o k,()),()):=by
 by_cases h1:o=1;· subst h1;rfl
 by_cases h2:o=2;· subst h2;rfl
 by_cases h3:o=3;· subst h3;rfl
 by_cases h4:o=4;· subst h4;rfl
 by_cases h5:o=5
 ·subst h5
  have e:AH 5 k=decide (1<=k/\k<=40):=rfl
  rw[e]
  unfold J8
  rw[Ag (by decide),Ag (by decide),Ag (by decide),Ag (by decide),Aq rfl]
  by_cases g:k>=1
  ·rw[As g]
   have:decide (k<=40)=decide (1<=k/\k<=40):=by rw[decide_eq_decide];omega
   rw[this]
  ·rw[Ax g,qZ9 (by omega)]
 by_cases h6:o=6;· subst h6;rfl
 by_cases h16:o=16;· subst h16;rfl
 by_cases h17:o=17;· subst h17;rfl
 by_cases h20:o=20;· subst h20;rfl
 by_cases h7:o=7;· subst h7;rfl
 by_cases h8:o=8;· subst h8;rfl
 by_cases h10:o=10;· subst h10;rfl
 by_cases h19:o=19;· subst h19;rfl
 by_cases h14:o=14;· subst h14;rfl
 unfold J8 AH
 rw[Ag h1,Ag h2,Ag h3,Ag h4,Ag h5,Ag h6,Ag h16,Ag h17,Ag h20,Ag h7,Ag h8,Ag h10,Ag h19,Ag h14,
  if_neg (by omega),if_neg h5,if_neg (by omega),if_neg (by omega),if_neg h14,if_neg (by omega)]
 rfl
theorem AB8 {ss:List Int} {s out:Int} (hl:ss.length<=1000000000):Dy ss s out=some ((if ∀ x∈ss,x=s then out else 0,()),()):=by
 have key:=CN (step:=Md) (fun k=>(ss,s,out,(0:Int),(k:Int),())) (fun k=>(ss,s,out,(0:Int),(k:Int),())) ss.length (E:=.exit 0) (B:=.ret) (by simp) (by simp) (fun k=>decide (ss.getD k 0=s)) (fun k hk=>by
  unfold Md
  simp only
  rw[As,Ak,Ab,Ab,qZ0,Aw (x:=(k:Int)+1) (by omega)]
  by_cases h:ss.getD k 0=s
  ·rw[Bm h,if_pos (qZ10 h)];rfl
  ·rw[Bu h,if_neg (fun e=>h (of_decide_eq_true e))]) (by
  unfold Md
  simp only
  rw[Ax])
 rw[Fd ss 0 (fun x=>decide (x=s))] at key
 rw[show ((0:Nat):Int)=0 from rfl] at key
 unfold Dy
 rcases key with ⟨k1,k2⟩ | ⟨k1,j,k2⟩
 ·rw[k2]
  simp only[Ad,AX,Ap]
  rw[if_pos (by simpa [qY3] using k1)]
 ·rw[k2]
  simp only[Ad,Bk,Bl,Ap,AA]
  rw[if_neg (fun h=>by rw[List.all_eq_true.2 (fun x hx=>qZ10 (h x hx))] at k1;cases k1)]
theorem Ux {n:Ac} {f:Int} {ss:List Int} (ho:1<=nOp n/\nOp n<=20) (hl:ss.length<=1000000000) (hc:AH (nOp n) ss.length=true) (h15:nOp n=15->f=3->ss.getD 0 0=2\/ss.getD 0 0=3):Mm n f ss=some ((AQ n f ss,()),()):=by
 obtain ⟨o,s,nm,num,kd⟩:=n
 simp only[nOp] at ho hc h15
 have hnum:∀ s,Mk s=some ((decide (s=2\/s=3),()),()):=W8
 unfold Mm AQ
 simp only[nOp,A3,AB8 hl,hnum,Ad,show (0:Int).toNat=0 from rfl,show (1:Int).toNat=1 from rfl,show (2:Int).toNat=2 from rfl]
 by_cases h1:o=1
 ·subst h1
  rcases ss with _ | ⟨a,l⟩<;>simp[AH] at hc
  ·simp
  ·omega
 rw[Ag h1]
 by_cases h2:o=2
 ·subst h2
  rcases ss with _ | ⟨a,l⟩<;>simp[AH] at hc
  ·simp
  ·omega
 rw[Ag h2]
 by_cases h3:o=3;· rw[Aq h3,if_pos (.inl h3)]
 rw[Ag h3]
 by_cases h4:o=4;· rw[Aq h4,if_pos (.inr (.inl h4))]
 rw[Ag h4]
 by_cases h5:o=5;· rw[Aq h5,if_pos (.inr (.inr h5))]
 rw[Ag h5,if_neg (show ¬ (o=3\/o=4\/o=5) by omega)]
 by_cases h6:o=6;· rw[Aq h6,if_pos (show o=1\/o=2\/o=6\/o=7\/o=8\/o=9 by omega)]
 rw[Ag h6]
 by_cases h7:o=7;· rw[Aq h7,if_pos (show o=1\/o=2\/o=6\/o=7\/o=8\/o=9 by omega)]
 rw[Ag h7]
 by_cases h8:o=8;· rw[Aq h8,if_pos (show o=1\/o=2\/o=6\/o=7\/o=8\/o=9 by omega)]
 rw[Ag h8]
 by_cases h9:o=9;· rw[Aq h9,if_pos (show o=1\/o=2\/o=6\/o=7\/o=8\/o=9 by omega)]
 rw[Ag h9,if_neg (show ¬ (o=1\/o=2\/o=6\/o=7\/o=8\/o=9) by omega)]
 by_cases h10:o=10
 ·subst h10
  rcases ss with _ | ⟨a,_ | ⟨b,_ | ⟨c,_ | ⟨d,l⟩⟩⟩⟩<;>simp[AH] at hc
  ·by_cases q:a=1
   ·by_cases q2:b=c
    ·simp[Aa,q,q2]
    ·simp[Aa,q,q2,show (b==c)=false by simpa using q2]
   ·simp[Aa,q,show (a==1)=false by simpa using q]
  ·omega
 rw[Ag h10,if_neg h10]
 by_cases h11:o=11
 ·subst h11
  rcases ss with _ | ⟨a,_ | ⟨b,_ | ⟨c,l⟩⟩⟩<;>simp[AH] at hc
  ·by_cases q:b=a
   ·simp[Aa,q]
   ·simp[Aa,q]
    exact fun e=>q e.symm
  ·omega
 rw[Ag h11,if_neg h11]
 by_cases h12:o=12
 ·subst h12
  rcases ss with _ | ⟨a,_ | ⟨b,_ | ⟨c,l⟩⟩⟩<;>simp[AH] at hc
  ·by_cases q:a=2\/a=3<;>simp[Aa,q]
  ·omega
 rw[Ag h12]
 by_cases h13:o=13
 ·subst h13
  rcases ss with _ | ⟨a,_ | ⟨b,_ | ⟨c,l⟩⟩⟩<;>simp[AH] at hc
  ·by_cases q:a=2\/a=3<;>simp[Aa,q]
  ·omega
 rw[Ag h13,if_neg (show ¬ (o=12\/o=13) by omega)]
 by_cases h14:o=14
 ·subst h14
  rcases ss with _ | ⟨a,l⟩<;>simp[AH] at hc
  by_cases q:a=2\/a=3<;>simp[Aa,q]
 rw[Ag h14,if_neg h14]
 by_cases h15':o=15
 ·subst h15'
  have h15:=h15 rfl
  rcases ss with _ | ⟨a,_ | ⟨b,_ | ⟨c,l⟩⟩⟩<;>simp[AH] at hc
  ·by_cases q:f=3
   ·have:=h15 q
    simp at this
    simp[Aa,q,this]
   ·simp[q,show (f==3)=false by simpa using q]
  ·omega
 rw[Ag h15',if_neg h15']
 by_cases h16:o=16
 ·subst h16
  rcases ss with _ | ⟨a,_ | ⟨b,l⟩⟩<;>simp[AH] at hc
  ·simp
  ·omega
 rw[Ag h16]
 by_cases h17:o=17
 ·subst h17
  rcases ss with _ | ⟨a,_ | ⟨b,l⟩⟩<;>simp[AH] at hc
  ·simp
  ·omega
 rw[Ag h17,if_neg (show ¬ (o=16\/o=17) by omega)]
 by_cases h20:o=20
 ·subst h20
  rcases ss with _ | ⟨a,_ | ⟨b,l⟩⟩<;>simp[AH] at hc
  ·simp
  ·omega
 rw[Ag h20]
 by_cases h18:o=18
 ·subst h18
  rcases ss with _ | ⟨a,_ | ⟨b,_ | ⟨c,l⟩⟩⟩<;>simp[AH] at hc
  ·by_cases q:a=4
   ·by_cases q2:b=2
    ·simp[Aa,q,q2]
    ·simp[Aa,q,q2,show (b==2)=false by simpa using q2]
   ·simp[Aa,q,show (a==4)=false by simpa using q]
  ·omega
 rw[Ag h18,if_neg h18]
 obtain rfl:o=19:=by omega
 rcases ss with _ | ⟨a,_ | ⟨b,_ | ⟨c,_ | ⟨d,l⟩⟩⟩⟩<;>simp[AH] at hc
 ·by_cases q:a=4
  ·by_cases q2:b=2
   ·by_cases q3:c=2
    ·simp[Aa,q,q2,q3]
    ·simp[Aa,q,q2,q3,show (c==2)=false by simpa using q3]
   ·simp[Aa,q,q2,show (b==2)=false by simpa using q2]
  ·simp[Aa,q,show (a==4)=false by simpa using q]
 ·omega
theorem UX {n:Ac} (h:Bq n=true):1<=nOp n/\nOp n<=20:=by
 unfold Bq at h
 split at h
 ·omega
 ·split at h
  ·omega
  ·split at h
   ·omega
   ·simp only[qY0,decide_eq_true_eq] at h
    exact h.1.1.1
theorem AL3 {n:Ac} (h:Bq n=true) (ho:nOp n=3\/nOp n=4\/nOp n=5):1<=A3 n/\A3 n<=4:=by
 unfold Bq at h
 split at h
 ·simp only[qY0,Bool.or_eq_true,decide_eq_true_eq] at h
  rcases h.2 with h | h<;>omega
 ·rw[if_pos (by omega)] at h
  simp only[qY0,decide_eq_true_eq] at h
  exact h.1.1
theorem AJS {ss:List Int} (h:∀ s∈ss,0<=s/\s<=4) (i:Nat):0<=ss.getD i 0/\ss.getD i 0<=4:=by
 rw[qZ4]
 cases hi:ss[i]? with
 |none=>simp
 |some s=>exact h s (qY14 hi)
theorem AAD {n:Ac} {f:Int} {ss:List Int} (hf:Bq n=true) (h:∀ s∈ss,0<=s/\s<=4):0<=AQ n f ss/\AQ n f ss<=4:=by
 have g:=AJS h
 have g0:=g 0
 have g1:=g 1
 unfold AQ
 by_cases c0:nOp n=3\/nOp n=4\/nOp n=5
 ·rw[if_pos c0];have:=AL3 hf c0;omega
 rw[if_neg c0]
 by_cases c1:nOp n=1\/nOp n=2\/nOp n=6\/nOp n=7\/nOp n=8\/nOp n=9
 ·rw[if_pos c1];split<;>omega
 rw[if_neg c1]
 by_cases c2:nOp n=10
 ·rw[if_pos c2];split<;>omega
 rw[if_neg c2]
 by_cases c3:nOp n=11
 ·rw[if_pos c3];split<;>omega
 rw[if_neg c3]
 by_cases c4:nOp n=12\/nOp n=13
 ·rw[if_pos c4];split<;>omega
 rw[if_neg c4]
 by_cases c5:nOp n=14
 ·rw[if_pos c5];split<;>omega
 rw[if_neg c5]
 by_cases c6:nOp n=15
 ·rw[if_pos c6];split<;>omega
 rw[if_neg c6]
 by_cases c7:nOp n=16\/nOp n=17
 ·rw[if_pos c7];split<;>omega
 rw[if_neg c7]
 by_cases c8:nOp n=18
 ·rw[if_pos c8];split<;>omega
 rw[if_neg c8]
 by_cases c9:nOp n=19
 ·rw[if_pos c9];split<;>omega
 rw[if_neg c9]
 by_cases c10:nOp n=20
 ·rw[if_pos c10];split<;>omega
 rw[if_neg c10];omega
theorem Yq:∀ (f:Tf),f.wf=true->∀ s∈f.srt,0<=s/\s<=4:=by
 intro f
 induction f with
 |nil=>intro _ s hs;simp[srt] at hs
 |cons n k r ik ir=>
  intro hw s hs
  obtain ⟨w1,w2,w3,w4⟩:=CF.1 hw
  simp only[srt,qY12] at hs
  rcases hs with rfl | hs
  ·split
   ·omega
   ·exact AAD (Gu.1 w1).1 (ik w3)
  ·exact ir w4 s hs
noncomputable def Dt (d L:Nat) (l:List Ac):Int×Int:=match one d l with
 |none=>(-1,0)
 |some (T,l')=>((L:Int) - (l'.length:Int),T.srt.getD 0 0)
abbrev Xj:=List Ac->Int->Int->Option ((Int×Int×Unit)×Unit)
def Ub (t:List Ac) (tr:Xj) (dp:Nat):Prop:=∀ i:Nat,tr t (i:Int) (dp:Int)=some (((Dt (257 - dp) t.length (t.drop i)).1,(Dt (257 - dp) t.length (t.drop i)).2,()),())
theorem X3 {d:Nat} {l l':List Ac} {T:Tf} (h:one d l=some (T,l')):T.size+l'.length=l.length/\T.srt.length=1:=by
 obtain ⟨h1,h2,h3,h4⟩:=Oc d h
 have:=congrArg List.length h1
 rw[qZ6,BN] at this
 exact ⟨this.symm,by rw[DN,h3]⟩
theorem Tl {d i:Nat} {t l':List Ac} {T:Tf} (h:one d (t.drop i)=some (T,l')) (hi:i<=t.length):t.drop (i+T.size)=l'/\i+T.size<=t.length/\(t.length:Int) - (l'.length:Int)=((i+T.size:Nat):Int):=by
 obtain ⟨h1,_,_,_⟩:=Oc d h
 have h2:=(X3 h).1
 rw[List.length_drop] at h2
 refine ⟨?_,by omega,by omega⟩
 rw[<-List.drop_drop,h1,List.drop_append_of_le_length (by rw[BN];omega),qY7 (by rw[BN];omega),qY15]
theorem AK6 {t:List Ac} (ht:t.length<=20000) {tr:Xj} {dp:Nat} (hdp:dp<=256) (htr:Ub t tr (dp+1)) {i:Nat} (hi:i < t.length) {K:Int} (hK:(t.getD i Az).2.2.2.2=K) :
 ∀ (c:Nat) (e k:Nat) (s:List Int) (good:Bool),e<=t.length->((k+c:Nat):Int)=K->s.length=k->k+c<=20000->
 match many (one (257 - (dp+1))) c (t.drop e) with
 |none=>∃ y,Am (G5 tr) (t,(i:Int),(dp:Int),0,0,s,(e:Int),good,(k:Int),())=some (.ret,(t,(i:Int),(dp:Int),-1,0,y))
 |some (F,l')=>Am (G5 tr) (t,(i:Int),(dp:Int),0,0,s,(e:Int),good,(k:Int),())=some (.exit 0,(t,(i:Int),(dp:Int),0,0,s++F.srt,(t.length:Int) - (l'.length:Int),good&&F.srt.all (fun x=>decide (x > 0)),K,())):=by
 intro c
 induction c with
 |zero=>
  intro e k s good he hk _ _
  simp only[many]
  refine AY ?_ (by simp)
  unfold G5
  simp only
  rw[Ak,Ab,Ab,qZ0,hK,Ax]
  have e1:(t.length:Int) - ((t.drop e).length:Int)=(e:Int):=by rw[List.length_drop];omega
  have e2:K=(k:Int):=by omega
  rw[e1,e2]
  simp[srt]
 |succ c ih=>
  intro e k s good he hk hs hb
  have hcall:=htr e
  simp only[many]
  have hstep0:G5 tr (t,(i:Int),(dp:Int),0,0,s,(e:Int),good,(k:Int),())=(tr t (e:Int) (qI ((dp:Int)+1))).bind fun r1=>
   cond (decide (r1.1.1 < (0:Int))) (some (Ex.ret,(t,(i:Int),(dp:Int),-1,0,s,r1.1.1,good,(k:Int),())))
    (cond good (Aa (decide (s.length+([r1.1.2.1]:List Int).length<=Av)) (some (Ex.normal,(t,(i:Int),(dp:Int),0,0,s++([r1.1.2.1]:List Int),r1.1.1,decide (r1.1.2.1 > (0:Int)),qI ((k:Int)+(1:Int)),()))))
    (Aa (decide (s.length+([r1.1.2.1]:List Int).length<=Av)) (some (Ex.normal,(t,(i:Int),(dp:Int),0,0,s++([r1.1.2.1]:List Int),r1.1.1,false,qI ((k:Int)+(1:Int)),()))))):=by
   unfold G5
   simp only
   rw[Ak,Ab,Ab,qZ0,hK,As]
  have hwd:qI ((dp:Int)+1)=((dp+1:Nat):Int):=by rw[Aw];rfl
  rw[hwd] at hstep0
  cases ho:one (257 - (dp+1)) (t.drop e) with
  |none=>
   have hcall':tr t (e:Int) ((dp+1:Nat):Int)=some ((-1,0,()),()):=by rw[hcall];unfold Dt;rw[ho]
   rw[hcall',Ad] at hstep0
   rw[As (show (-1:Int) < 0 by omega)] at hstep0
   simp only[Option.bind_none]
   exact ⟨_,AY hstep0 (by simp)⟩
  |some x=>
   obtain ⟨T,l1⟩:=x
   obtain ⟨q1,q2⟩:=X3 ho
   obtain ⟨d1,d2,d3⟩:=Tl ho he
   obtain ⟨x,hx⟩:∃ x,T.srt=[x]:=by
    match h:T.srt,q2 with
    |[x],_=>exact ⟨x,rfl⟩
   have hcall':tr t (e:Int) ((dp+1:Nat):Int)=some ((((e+T.size:Nat):Int),x,()),()):=by
    rw[hcall];unfold Dt;rw[ho];simp only;rw[hx,d3];rfl
   rw[hcall',Ad] at hstep0
   rw[Ax (show ¬ ((e+T.size:Nat):Int) < 0 by omega)] at hstep0
   have hlen:s.length+1<=Av:=by simp only[Av];omega
   have hgo:G5 tr (t,(i:Int),(dp:Int),0,0,s,(e:Int),good,(k:Int),())=some (.normal,(t,(i:Int),(dp:Int),0,0,s++[x],((e+T.size:Nat):Int),good&&decide (x > 0),((k+1:Nat):Int),())):=by
    rw[hstep0,Aw (x:=(k:Int)+1) (by omega)]
    cases good
    ·simp only[AA,Bool.false_and];rw[Ab (by simpa using hlen)];rfl
    ·simp only[Ap,Bool.true_and];rw[Ab (by simpa using hlen)];rfl
   have ih':=ih (e+T.size) (k+1) (s++[x]) (good&&decide (x > 0)) d2 (by omega) (by simp[hs]) (by omega)
   simp only[Option.bind_some]
   rw[d1] at ih'
   cases hm:many (one (257 - (dp+1))) c l1 with
   |none=>
    rw[hm] at ih'
    obtain ⟨y,hy⟩:=ih'
    simp only[Option.bind_none]
    exact ⟨y,by rw[AZ hgo,hy]⟩
   |some z=>
    obtain ⟨F,l'⟩:=z
    rw[hm] at ih'
    simp only[Option.bind_some] at ih' ⊢
    rw[AZ hgo,ih',Ji,hx]
    simp[Bool.and_assoc]
theorem AD4 {f:Tf} (hw:f.wf=true):f.srt.all (fun x=>decide (x > 0))=!decide (0∈f.srt):=by
 have h:=Yq f hw
 generalize f.srt=l at h
 induction l with
 |nil=>rfl
 |cons a l ih=>
  have ha:=h a (by simp)
  rw[List.all_cons,ih fun s hs=>h s (by simp[hs])]
  by_cases h0:a=0
  ·subst h0;simp
  ·rw[qZ10 (show a > 0 by omega)]
   have:(0:Int)∈a::l ↔ 0∈l:=by simp;omega
   simp only[this,Bool.true_and]
theorem Xn {t:List Ac} (hs:D4 t) (ht:t.length<=20000):∀ (f dp:Nat),dp<=257->258<=f+dp->Ub t (FU f) dp:=by
 intro f
 induction f with
 |zero=>intro dp h1 h2;omega
 |succ f ih=>
  intro dp h1 h2 i
  have hunf:FU (f+1) t (i:Int) (dp:Int)=Nu (FU f) t (i:Int) (dp:Int):=rfl
  rw[hunf]
  unfold Nu
  by_cases hi:i>=t.length
  ·rw[As]
   unfold Dt
   have e:t.drop i=[]:=qY7 hi
   rw[e]
   cases h:257 - dp<;>rfl
  rw[Ax]
  by_cases hd:dp=257
  ·rw[As]
   unfold Dt
   have e:257 - dp=0:=by omega
   rw[e]
   rfl
  rw[Ax]
  have hi':i < t.length:=by omega
  have hget:t.getD i Az=t[i]:=by simp[qZ4,hi']
  have hdrop:=qY6 hi'
  have hnum:=hs _ (List.getElem_mem hi')
  have hd1:257 - dp=(257 - (dp+1))+1:=by omega
  have hone:one (257 - dp) (t.drop i)=if Cv t[i]=true then (many (one (257 - (dp+1))) (A7 t[i]).toNat (t.drop (i+1))).bind fun x=>some (cons t[i] x.1 nil,x.2) else none:=by rw[hd1,hdrop];rfl
  generalize t[i]=n at hget hnum hone
  have hg:∀ (k:Option ((Int×Int×Unit)×Unit)),Aa (decide (0<=(i:Int))&&decide ((i:Int) < (t.length:Int))) k=k:=fun k=>by rw[Ak,Ab,Ab]
  rw[hg,qZ0,hget,AHV (by omega),Ad]
  have hno:Cv n=false->Dt (257 - dp) t.length (t.drop i)=(-1,0):=fun h=>by
   unfold Dt
   rw[hone,if_neg (by rw[h];decide)]
  by_cases q3:Bq n=false
  ·rw[q3,hno (by unfold Cv;rw[q3];rfl)];rfl
  rw[Bool.not_eq_false] at q3
  rw[q3]
  simp only[qY2,AA]
  rw[hg,hg,ADd,Ad]
  by_cases q4:AH n.1 n.2.2.2.2=false
  ·rw[q4,hno (by unfold Cv;rw[q4,Bool.and_false])];rfl
  rw[Bool.not_eq_false] at q4
  rw[q4]
  simp only[qY2,AA]
  rw[hg]
  have hok:Cv n=true:=Gu.2 ⟨q3,q4⟩
  rw[if_pos hok] at hone
  have hk0:=OU q4
  have hK:n.2.2.2.2=A7 n:=rfl
  rw[hK] at hk0 ⊢
  have hbound:∀ F l',many (one (257 - (dp+1))) (A7 n).toNat (t.drop (i+1))=some (F,l')->F.len=(A7 n).toNat/\F.wf=true/\t.drop (i+1)=F.flat++l'/\F.size+l'.length=t.length - (i+1):=by
   intro F l' hm
   obtain ⟨m1,m2,m3,m4⟩:=VH (Oc _) _ hm
   have:=congrArg List.length m1
   rw[qZ6,BN,List.length_drop] at this
   exact ⟨m3,m2,m1,this.symm⟩
  by_cases q5:A7 n > (t.length:Int)
  ·rw[As q5]
   have hm:many (one (257 - (dp+1))) (A7 n).toNat (t.drop (i+1))=none:=by
    cases hm:many (one (257 - (dp+1))) (A7 n).toNat (t.drop (i+1)) with
    |none=>rfl
    |some x=>
     obtain ⟨F,l'⟩:=x
     obtain ⟨b1,b2,b3,b4⟩:=hbound F l' hm
     have:=Es F
     omega
   unfold Dt
   rw[hone,hm]
   rfl
  rw[Ax q5]
  have hwi:qI ((i:Int)+1)=((i+1:Nat):Int):=by rw[Aw];rfl
  have hl:=AK6 ht (dp:=dp) (by omega) (ih (dp+1) (by omega) (by omega)) hi' (K:=A7 n) (by rw[hget]) (A7 n).toNat (i+1) 0 [] true (by omega) (by omega) rfl (by omega)
  rw[show ((0:Nat):Int)=0 from rfl] at hl
  rw[hwi]
  cases hm:many (one (257 - (dp+1))) (A7 n).toNat (t.drop (i+1)) with
  |none=>
   rw[hm] at hl hone
   obtain ⟨y,hy⟩:=hl
   rw[hy]
   simp only[Ad,Bk,Bl,Ap,AA]
   unfold Dt
   rw[hone]
   rfl
  |some x=>
   obtain ⟨F,l'⟩:=x
   obtain ⟨b1,b2,b3,b4⟩:=hbound F l' hm
   rw[hm] at hl hone
   simp only at hl
   rw[hl]
   simp only[Ad,AX,Ap,qY15,Bool.true_and]
   rw[AD4 b2]
   simp only[Option.bind_some] at hone
   have htree:Dt (257 - dp) t.length (t.drop i)=((t.length:Int) - (l'.length:Int),if 0∈F.srt then 0 else AQ n (op1 F) F.srt):=by
    unfold Dt
    rw[hone]
    rfl
   rw[htree]
   by_cases h0:(0:Int)∈F.srt
   ·rw[qZ10 h0,if_pos h0];rfl
   rw[qZ9 h0,if_neg h0]
   simp only[qY1,qY2,AA]
   have hop:=UX q3
   have hcl:AH (nOp n) (F.srt.length:Int)=true:=by
    have e:(F.srt.length:Int)=A7 n:=by rw[DN,b1];omega
    rw[e];exact q4
   have hsl:F.srt.length<=1000000000:=by rw[DN];have:=Es F;omega
   cases F with
   |nil=>
    rw[Ax (by simp[srt]),hg,qZ0,hget,Ux (f:=0) hop hsl hcl (fun _ h=>by omega),Ad]
    rfl
   |cons n1 k1 r1=>
    have hb:t.drop (i+1)=n1::(k1.flat++r1.flat++l'):=by rw[b3];simp[flat]
    obtain ⟨g1,g2⟩:=Ff (d:=Az) hb
    obtain ⟨w1,w2,w3,w4⟩:=CF.1 b2
    obtain ⟨s1,s2,s3⟩:=EF.1 h0
    rw[As (by simp[srt]),hwi,Ak,Ab,Ab,hg,qZ0,qZ0,hget,g1]
    rw[Ux (f:=n1.1) hop hsl hcl (fun _ h=>by
     have hsrt:(cons n1 k1 r1).srt.getD 0 0=AQ n1 (op1 k1) k1.srt:=by
      simp only[srt,qZ3]
      rw[if_neg s1]
     rw[hsrt]
     have h3:nOp n1=3:=h
     have:AQ n1 (op1 k1) k1.srt=A3 n1:=by unfold AQ;rw[if_pos (.inl h3)]
     rw[this]
     exact (PT (Gu.1 w1).1 h3).1),Ad]
    rfl
theorem O1:∃ f,BB=f/\258<=f:=⟨BB,rfl,by decide⟩
theorem AKF {t rest:List Ac} {at':Nat} {n:Ac} {k r:Tf} (hd:t.drop at'=(cons n k r).flat++rest) (hw:(cons n k r).wf=true) (hdep:(cons n k r).dep<=257):one 257 (t.drop at')=some (cons n k nil,r.flat++rest):=by
 obtain ⟨w1,w2,w3,w4⟩:=CF.1 hw
 have e:(cons n k r).flat++rest=(cons n k nil).flat++(r.flat++rest):=by simp[flat]
 rw[hd,e]
 exact SG _ (CF.2 ⟨w1,w2,w3,rfl⟩) rfl (by simp only[dep] at hdep ⊢;omega)
theorem AI8 {t:List Ac} (hs:D4 t) (ht:t.length<=20000) {p:Nat} (hp:p < t.length) {K:Int} (hK:(t.getD p Az).2.2.2.2=K):∀ (r:Tf) (at':Nat) (rest:List Ac) (out:List Int) (idx:Nat),t.drop at'=r.flat++rest->r.wf=true->r.dep<=257->((idx+r.len:Nat):Int)=K->idx+r.len<=20000->out.length=idx->
 ∃ y,Am I0 (t,(p:Int),out,(at':Int),(idx:Int),())=some (.exit 0,(t,(p:Int),out++r.srt,y)):=by
 intro r
 induction r with
 |nil=>
  intro at' rest out idx _ _ _ hk _ _
  simp only[len,Nat.add_zero] at hk
  refine ⟨_,AY (y:=(t,(p:Int),out++[],(at':Int),(idx:Int),())) ?_ (by simp)⟩
  unfold I0
  simp only
  rw[Ak,Ab,Ab,qZ0,hK,Ax,qY4]
 |cons n k r _ ir=>
  intro at' rest out idx hd hw hdep hk hb ho
  obtain ⟨w1,w2,w3,w4⟩:=CF.1 hw
  have hone:=AKF hd hw hdep
  obtain ⟨f,hf1,hf2⟩:=O1
  have htr:=Xn hs ht f 0 (by omega) (by omega) at'
  rw[show ((0:Nat):Int)=0 from rfl] at htr
  have hat:at'<=t.length:=by
   rcases Nat.lt_or_ge t.length at' with h | h
   ·rw[qY7 (by omega)] at hd
    simp[flat] at hd
   ·exact h
  obtain ⟨d1,d2,d3⟩:=Tl hone hat
  have hts:Dt (257 - 0) t.length (t.drop at')=(((at'+(cons n k nil).size:Nat):Int),(cons n k nil).srt.getD 0 0):=by
   unfold Dt
   rw[show 257 - 0=257 from rfl,hone]
   simp only
   rw[d3]
  rw[hts] at htr
  simp only[len] at hk hb
  have hgo:I0 (t,(p:Int),out,(at':Int),(idx:Int),())=some (.normal,(t,(p:Int),out++[(cons n k nil).srt.getD 0 0],((at'+(cons n k nil).size:Nat):Int),((idx+1:Nat):Int),())):=by
   unfold I0
   simp only
   rw[Ak,Ab,Ab,qZ0,hK,As,hf1,htr,Ad,Ab (by simp[Av];omega),Aw]
   rfl
  obtain ⟨y,hy⟩:=ir (at'+(cons n k nil).size) rest (out++[(cons n k nil).srt.getD 0 0]) (idx+1) d1 w4 (by simp only[dep] at hdep;omega) (by omega) (by omega) (by simp[ho])
  refine ⟨y,?_⟩
  rw[AZ hgo,hy]
  simp[srt]
theorem AK0 {t:List Ac} (hs:D4 t) (ht:t.length<=20000) {p:Nat} {n:Ac} {k:Tf} {rest:List Ac} (hd:t.drop p=n::(k.flat++rest)) (hn:A7 n=(k.len:Int)) (hw:k.wf=true) (hdep:k.dep<=257) (hk:k.size<=20000):M0 t (p:Int)=some ((k.srt,()),()):=by
 obtain ⟨g1,g2⟩:=Ff (d:=Az) hd
 have hkl:=Es k
 have hd':t.drop (p+1)=k.flat++rest:=by
  have:=congrArg (List.drop 1) hd
  rw[List.drop_drop] at this
  simpa using this
 unfold M0
 obtain ⟨y,hy⟩:=AI8 hs ht g2 (K:=(k.len:Int)) (by rw[g1];exact hn) k (p+1) rest [] 0 hd' hw hdep (by omega) (by omega) rfl
 rw[show ((0:Nat):Int)=0 from rfl] at hy
 rw[Aw]
 have e:(p:Int)+1=((p+1:Nat):Int):=rfl
 rw[e,hy]
 simp only[Ad,AX,Ap,qY15]
theorem ALR {a b:List Int} (ha:a.length<=2000000000):ML a b=some ((decide (a=b),()),()):=by
 unfold ML
 by_cases hl:a.length=b.length
 ·rw[Bm]
  have:=CN (step:=Lf) (fun k=>(a,b,false,(k:Int),())) (fun k=>(a,b,false,(k:Int),())) a.length (E:=.exit 0) (B:=.ret) (by simp) (by simp) (fun k=>decide (a.getD k 0=b.getD k 0)) (fun k hk=>by
   unfold Lf
   simp only
   rw[As,Ak,Ab,Ab,Ak,Ab,Ab,qZ0,Aw]
   by_cases h:a.getD k 0=b.getD k 0
   ·rw[Bm h,if_pos (qZ10 h)];rfl
   ·rw[Bu h,if_neg (fun e=>h (of_decide_eq_true e))]) (by
   unfold Lf
   simp only
   rw[Ax])
  rw[show ((0:Nat):Int)=0 from rfl] at this
  have heq:(List.range a.length).all (fun k=>decide (a.getD k 0=b.getD k 0))=decide (a=b):=by
   rw[Bool.eq_iff_iff,qY3,decide_eq_true_eq]
   constructor
   ·intro h
    refine List.ext_getElem hl fun k h1 h2=>?_
    have:=h k (List.mem_range.2 h1)
    simpa [qZ4,h1,h2] using this
   ·rintro rfl k _;simp
  rcases this with ⟨h1,h2⟩ | ⟨h1,k,h2⟩
  ·rw[h2,<-heq,h1];simp only[Ad,AX,Ap]
  ·rw[h2,<-heq,h1];simp only[Ad,Bk,Bl,Ap,AA]
 ·rw[Bu,qZ9 (fun e=>hl (by rw[e]))]
abbrev Fv:=qBs×List Int×Int
structure UI (us:List Us) (vars:List Vr) (funcs:List Fv):Prop where
 w:∀ a∈us,(a.2.1=false/\a.2.2.1=[])\/a.2.1=true
 c:∀ a∈us,∀ b∈us,a.1=b.1->a.2.1=b.2.1->a=b
 v1:∀ x∈vars,(x.1,false,[],x.2)∈us
 v2:∀ nm s,(nm,false,[],s)∈us->(nm,s)∈vars
 f1:∀ x∈funcs,(x.1,true,x.2.1,x.2.2)∈us
 f2:∀ nm a s,(nm,true,a,s)∈us->(nm,a,s)∈funcs
theorem UI.nil:UI [] [] []:=⟨fun a h=>absurd h qY16,fun a h=>absurd h qY16,fun a h=>absurd h qY16,fun _ _ h=>absurd h qY16,fun a h=>absurd h qY16,fun _ _ _ h=>absurd h qY16⟩
theorem UI.again {us:List Us} {vars:List Vr} {funcs:List Fv} (h:UI us vars funcs) {u:Us} (hu:u∈us):UI (us++[u]) vars funcs:=by
 have hm:∀ a,a∈us++[u] ↔ a∈us:=fun a=>by
  rw[qZ7,qZ8]
  exact ⟨fun h=>h.elim id fun e=>e ▸ hu,.inl⟩
 exact ⟨fun a ha=>h.w a ((hm a).1 ha),fun a ha b hb=>h.c a ((hm a).1 ha) b ((hm b).1 hb),fun x hx=>(hm _).2 (h.v1 x hx),fun nm s hx=>h.v2 nm s ((hm _).1 hx),fun x hx=>(hm _).2 (h.f1 x hx),fun nm a s hx=>h.f2 nm a s ((hm _).1 hx)⟩
theorem UI.snoc_c {us:List Us} {vars:List Vr} {funcs:List Fv} (h:UI us vars funcs) {u:Us} (hu:∀ a∈us,a.1=u.1->a.2.1=u.2.1->a=u):∀ a∈us++[u],∀ b∈us++[u],a.1=b.1->a.2.1=b.2.1->a=b:=by
 intro a ha b hb e1 e2
 rcases List.mem_append.1 ha with ha1 | ha1
 ·rcases List.mem_append.1 hb with hb1 | hb1
  ·exact h.c a ha1 b hb1 e1 e2
  ·rw[qZ8] at hb1
   rw[hb1] at e1 e2 ⊢
   exact hu a ha1 e1 e2
 ·rw[qZ8] at ha1
  rw[ha1] at e1 e2 ⊢
  rcases List.mem_append.1 hb with hb1 | hb1
  ·exact (hu b hb1 e1.symm e2.symm).symm
  ·rw[qZ8] at hb1;exact hb1.symm
theorem UI.addV {us:List Us} {vars:List Vr} {funcs:List Fv} (h:UI us vars funcs) {nm:qBs} {s:Int} (hn:∀ x∈vars,x.1≠nm):UI (us++[(nm,false,[],s)]) (vars++[(nm,s)]) funcs:=by
 refine ⟨fun a ha=>?_,h.snoc_c fun a ha e1 e2=>?_,fun x hx=>?_,fun m x hx=>?_,fun x hx=>List.mem_append_left _ (h.f1 x hx),fun m a x hx=>?_⟩
 ·rcases List.mem_append.1 ha with ha | ha
  ·exact h.w a ha
  ·rw[qZ8] at ha;subst ha;exact .inl ⟨rfl,rfl⟩
 ·exfalso
  obtain ⟨m,b,l,z⟩:=a
  simp only at e1 e2
  subst e1;subst e2
  rcases h.w _ ha with ⟨_,q⟩ | q
  ·simp only at q;subst q
   exact hn _ (h.v2 _ _ ha) rfl
  ·cases q
 ·rcases List.mem_append.1 hx with hx | hx
  ·exact List.mem_append_left _ (h.v1 x hx)
  ·rw[qZ8] at hx;subst hx;simp
 ·rcases List.mem_append.1 hx with hx | hx
  ·exact List.mem_append_left _ (h.v2 m x hx)
  ·rw[qZ8] at hx;cases hx;simp
 ·rcases List.mem_append.1 hx with hx | hx
  ·exact h.f2 m a x hx
  ·rw[qZ8] at hx;cases hx
theorem UI.addF {us:List Us} {vars:List Vr} {funcs:List Fv} (h:UI us vars funcs) {nm:qBs} {l:List Int} {s:Int} (hn:∀ x∈funcs,x.1≠nm):UI (us++[(nm,true,l,s)]) vars (funcs++[(nm,l,s)]):=by
 refine ⟨fun a ha=>?_,h.snoc_c fun a ha e1 e2=>?_,fun x hx=>List.mem_append_left _ (h.v1 x hx),fun m x hx=>?_,fun x hx=>?_,fun m a x hx=>?_⟩
 ·rcases List.mem_append.1 ha with ha | ha
  ·exact h.w a ha
  ·rw[qZ8] at ha;subst ha;exact .inr rfl
 ·exfalso
  obtain ⟨m,b,l',z⟩:=a
  simp only at e1 e2
  subst e1;subst e2
  exact hn _ (h.f2 _ _ _ ha) rfl
 ·rcases List.mem_append.1 hx with hx | hx
  ·exact h.v2 m x hx
  ·rw[qZ8] at hx;cases hx
 ·rcases List.mem_append.1 hx with hx | hx
  ·exact List.mem_append_left _ (h.f1 x hx)
  ·rw[qZ8] at hx;subst hx;simp
 ·rcases List.mem_append.1 hx with hx | hx
  ·exact List.mem_append_left _ (h.f2 m a x hx)
  ·rw[qZ8] at hx;cases hx;simp
theorem AGX {t:List Ac} {vars:List Vr} {funcs:List Fv} {i:Nat} {n:Ac} (hi:i < t.length) (hn:t.getD i Az=n) (hl:vars.length<=20000):∀ (m q:Nat) (known:Bool),q+m=vars.length->
 ((∃ x∈vars.drop q,x.1=n.2.2.1/\x.2≠n.2.1)/\∃ y,Am HH (t,false,vars,funcs,(i:Int),known,(q:Int),())=some (.ret,(t,false,vars,funcs,(i:Int),y)))\/
 ((∀ x∈vars.drop q,x.1=n.2.2.1->x.2=n.2.1)/\Am HH (t,false,vars,funcs,(i:Int),known,(q:Int),())=some (.exit 3,(t,false,vars,funcs,(i:Int),known||(vars.drop q).any (fun x=>decide (x.1=n.2.2.1)),(vars.length:Int),()))):=by
 intro m
 induction m with
 |zero=>
  intro q known hq
  have e:vars.drop q=[]:=qY7 (by omega)
  rw[e]
  refine .inr ⟨fun x hx=>absurd hx qY16,AY ?_ (by simp)⟩
  unfold HH
  simp only
  rw[Ax]
  have:q=vars.length:=by omega
  rw[this]
  simp
 |succ m ih=>
  intro q known hq
  have hql:q < vars.length:=by omega
  have hd:=qY6 hql
  have hg:vars.getD q Cb=vars[q]:=by simp[qZ4,hql]
  rw[hd]
  generalize vars[q]=x at hg hd
  have hstep:HH (t,false,vars,funcs,(i:Int),known,(q:Int),())=if x.1=n.2.2.1 then (if x.2=n.2.1 then some (.normal,(t,false,vars,funcs,(i:Int),true,((q+1:Nat):Int),())) else some (.ret,(t,false,vars,funcs,(i:Int),true,(q:Int),()))) else some (.normal,(t,false,vars,funcs,(i:Int),known,((q+1:Nat):Int),())):=by
   unfold HH
   simp only
   rw[As,Ak,Ab,Ab,qZ0,qZ0,Ab hql,Ak,Ab,Ab,hg,hn,Aw]
   by_cases h1:x.1=n.2.2.1
   ·rw[show (x.1==n.2.2.1)=true by simpa using h1,if_pos h1,Ap,Ak,Ab,Ab,Ab hql,Ak,Ab,Ab]
    by_cases h2:x.2=n.2.1
    ·rw[Bm h2,if_pos h2];rfl
    ·rw[Bu h2,if_neg h2]
   ·rw[show (x.1==n.2.2.1)=false by simpa using h1,if_neg h1,AA];rfl
  by_cases h1:x.1=n.2.2.1
  ·rw[if_pos h1] at hstep
   by_cases h2:x.2=n.2.1
   ·rw[if_pos h2] at hstep
    rcases ih (q+1) true (by omega) with ⟨⟨z,z1,z2⟩,y,hy⟩ | ⟨hz,hy⟩
    ·exact .inl ⟨⟨z,qY13 _ z1,z2⟩,y,by rw[AZ hstep,hy]⟩
    ·refine .inr ⟨fun z hz' e=>?_,?_⟩
     ·rcases List.mem_cons.1 hz' with rfl | hz'
      ·exact h2
      ·exact hz z hz' e
     ·rw[AZ hstep,hy,List.any_cons,qZ10 h1];simp
   ·rw[if_neg h2] at hstep
    exact .inl ⟨⟨x,by simp,h1,h2⟩,_,AY hstep (by simp)⟩
  ·rw[if_neg h1] at hstep
   rcases ih (q+1) known (by omega) with ⟨⟨z,z1,z2⟩,y,hy⟩ | ⟨hz,hy⟩
   ·exact .inl ⟨⟨z,qY13 _ z1,z2⟩,y,by rw[AZ hstep,hy]⟩
   ·refine .inr ⟨fun z hz' e=>?_,?_⟩
    ·rcases List.mem_cons.1 hz' with rfl | hz'
     ·exact absurd e h1
     ·exact hz z hz' e
    ·rw[AZ hstep,hy,List.any_cons,qZ9 h1,Bool.false_or]
theorem ABD {t:List Ac} {vars:List Vr} {funcs:List Fv} {i:Nat} {g:Fv} (hl:funcs.length<=20000) (hfl:∀ x∈funcs,x.2.1.length<=20000):∀ (m q:Nat) (known:Bool),q+m=funcs.length->
 ((∃ x∈funcs.drop q,x.1=g.1/\x≠g)/\∃ y,Am Hw (t,false,vars,funcs,(i:Int),g,known,(q:Int),())=some (.ret,(t,false,vars,funcs,(i:Int),y)))\/
 ((∀ x∈funcs.drop q,x.1=g.1->x=g)/\Am Hw (t,false,vars,funcs,(i:Int),g,known,(q:Int),())=some (.exit 5,(t,false,vars,funcs,(i:Int),g,known||(funcs.drop q).any (fun x=>decide (x.1=g.1)),(funcs.length:Int),()))):=by
 intro m
 induction m with
 |zero=>
  intro q known hq
  have e:funcs.drop q=[]:=qY7 (by omega)
  rw[e]
  refine .inr ⟨fun x hx=>absurd hx qY16,AY ?_ (by simp)⟩
  unfold Hw
  simp only
  rw[Ax]
  have:q=funcs.length:=by omega
  rw[this]
  simp
 |succ m ih=>
  intro q known hq
  have hql:q < funcs.length:=by omega
  have hd:=qY6 hql
  have hg:funcs.getD q (([]:qBs),([]:List Int),(0:Int))=funcs[q]:=by simp[qZ4,hql]
  have hxl:=hfl _ (List.getElem_mem hql)
  rw[hd]
  generalize funcs[q]=x at hg hd hxl
  obtain ⟨xn,xa,xr⟩:=x
  obtain ⟨gn,ga,gr⟩:=g
  simp only at hxl
  have hstep:Hw (t,false,vars,funcs,(i:Int),(gn,ga,gr),known,(q:Int),())=if xn=gn then (if (xn,xa,xr)=(gn,ga,gr) then some (.normal,(t,false,vars,funcs,(i:Int),(gn,ga,gr),true,((q+1:Nat):Int),())) else some (.ret,(t,false,vars,funcs,(i:Int),(gn,ga,gr),true,(q:Int),()))) else some (.normal,(t,false,vars,funcs,(i:Int),(gn,ga,gr),known,((q+1:Nat):Int),())):=by
   unfold Hw
   simp only
   rw[As,Ak,Ab,Ab,qZ0,Ab hql,hg,Aw]
   by_cases h1:xn=gn
   ·rw[show (xn==gn)=true by simpa using h1,if_pos h1,Ap,Ak,Ab,Ab,Ab hql]
    by_cases h2:xr=gr
    ·rw[Bm h2,Ak,Ab,Ab,Ab hql,ALR (show xa.length<=2000000000 by omega),Ad]
     by_cases h3:xa=ga
     ·rw[qZ10 h3,if_pos (by rw[h1,h2,h3])];rfl
     ·rw[qZ9 h3,if_neg (fun e=>h3 (by cases e;rfl))];rfl
    ·rw[Bu h2,if_neg (fun e=>h2 (by cases e;rfl))]
   ·rw[show (xn==gn)=false by simpa using h1,if_neg h1,AA];rfl
  by_cases h1:xn=gn
  ·rw[if_pos h1] at hstep
   by_cases h2:(xn,xa,xr)=(gn,ga,gr)
   ·rw[if_pos h2] at hstep
    rcases ih (q+1) true (by omega) with ⟨⟨z,z1,z2⟩,y,hy⟩ | ⟨hz,hy⟩
    ·exact .inl ⟨⟨z,qY13 _ z1,z2⟩,y,by rw[AZ hstep,hy]⟩
    ·refine .inr ⟨fun z hz' e=>?_,?_⟩
     ·rcases List.mem_cons.1 hz' with rfl | hz'
      ·exact h2
      ·exact hz z hz' e
     ·rw[AZ hstep,hy,List.any_cons,qZ10 h1];simp
   ·rw[if_neg h2] at hstep
    exact .inl ⟨⟨_,by simp,h1,h2⟩,_,AY hstep (by simp)⟩
  ·rw[if_neg h1] at hstep
   rcases ih (q+1) known (by omega) with ⟨⟨z,z1,z2⟩,y,hy⟩ | ⟨hz,hy⟩
   ·exact .inl ⟨⟨z,qY13 _ z1,z2⟩,y,by rw[AZ hstep,hy]⟩
   ·refine .inr ⟨fun z hz' e=>?_,?_⟩
    ·rcases List.mem_cons.1 hz' with rfl | hz'
     ·exact absurd e h1
     ·exact hz z hz' e
    ·rw[AZ hstep,hy,List.any_cons,qZ9 h1,Bool.false_or]
theorem ADh {F:Tf} {t:List Ac} (hs:D4 t) (hF:F.flat=t) (hw:F.wf=true) (h0:(0:Int)∉F.srt) (hz:F.size<=20000) (hdep:F.dep<=257) {p:Nat} (hp:p < F.size) {vars:List Vr} {funcs:List Fv}
 (hI:UI (C2 F p) vars funcs) (hl:vars.length<=p) (hm:funcs.length<=p) :
 (¬ Du (C2 F (p+1))/\∃ x,Gq (t,false,vars,funcs,(p:Int),())=some (.ret,(t,false,x)))\/
 ∃ vars' funcs',UI (C2 F (p+1)) vars' funcs'/\vars'.length<=p+1/\funcs'.length<=p+1/\Gq (t,false,vars,funcs,(p:Int),())=some (.normal,(t,false,vars',funcs',((p+1:Nat):Int),())):=by
 obtain ⟨n,k,x,rest,rest2,h1,h2,h3⟩:=S8 F 0 p hp
 obtain ⟨g1,g2⟩:=Ff (d:=Az) h2
 have hmem:(n,k)∈F.subs:=qY14 h1
 obtain ⟨w1,w2,w3,w4⟩:=XJ hw h0 hmem
 have hks:=NG hmem
 have htl:t.length=F.size:=by rw[<-hF,BN]
 rw[hF] at g1 h2
 have hwp:qI ((p:Int)+1)=((p+1:Nat):Int):=by rw[Aw];rfl
 have hT:=WB h1
 have hkd:k.dep<=257:=by
  have:∀ (f:Tf),(n,k)∈f.subs->k.dep<=f.dep:=by
   intro f
   induction f with
   |nil=>intro h;simp[subs] at h
   |cons a b c ib ic=>
    intro h
    simp only[subs,qY12,qZ7,Prod.mk.injEq] at h
    simp only[dep]
    rcases h with ⟨rfl,rfl⟩ | h | h
    ·omega
    ·have:=ib h;omega
    ·have:=ic h;omega
  have:=this F hmem
  omega
 unfold Gq
 simp only
 rw[As,Ak,Ab,Ab,qZ0,g1]
 by_cases e4:n.1=4
 ·have hu:CK (n,k)=some (n.2.2.1,false,[],n.2.1):=by unfold CK;rw[if_pos e4]
  rw[hu] at hT
  rw[Aq e4]
  rcases AGX (funcs:=funcs) (t:=t) (i:=p) (n:=n) (by omega) g1 (show vars.length<=20000 by omega) vars.length 0 false (by omega) with ⟨⟨y,y1,y2,y3⟩,z,hz'⟩ | ⟨hy,hz'⟩
  ·rw[show ((0:Nat):Int)=0 from rfl] at hz'
   rw[hz']
   simp only[Ad,Bk,Bl,Ap,AA]
   refine .inl ⟨fun hc=>y3 ?_,_,rfl⟩
   rw[hT] at hc
   have hy1:=hI.v1 y (by simpa using y1)
   have:=hc _ (List.mem_append_left _ hy1) (n.2.2.1,false,[],n.2.1) (by simp) y2
   simp only[Prod.mk.injEq] at this
   exact this.2.2.2
  ·rw[show ((0:Nat):Int)=0 from rfl] at hz'
   rw[hz']
   simp only[Ad,AX,Ap,Bool.false_or,List.drop_zero]
   by_cases hk:(vars.any fun x=>decide (x.1=n.2.2.1))=true
   ·rw[hk]
    simp only[qY2,AA,hwp]
    obtain ⟨y,y1,y2⟩:=List.any_eq_true.1 hk
    have y2':y.1=n.2.2.1:=of_decide_eq_true y2
    have hy1:=hI.v1 y y1
    have e2:=hy y (by simpa using y1) y2'
    rw[y2',e2] at hy1
    exact .inr ⟨_,_,by rw[hT];exact hI.again hy1,by omega,by omega,rfl⟩
   ·rw[Bool.not_eq_true] at hk
    rw[hk]
    simp only[qY1,Ap]
    rw[Ak,Ab,Ab,Ak,Ab,Ab,Ab (by simp[Av];omega),qZ0,g1,hwp]
    have hx:∀ y∈vars,y.1≠n.2.2.1:=fun y hy1 e=>List.any_eq_false.1 hk y hy1 (qZ10 e)
    exact .inr ⟨_,_,by rw[hT];exact hI.addV hx,by simp;omega,by omega,rfl⟩
 ·rw[Ag e4]
  by_cases e5:n.1=5
  ·have hu:CK (n,k)=some (n.2.2.1,true,k.srt,n.2.1):=by unfold CK;rw[if_neg e4,if_pos e5]
   rw[hu] at hT
   rw[Aq e5]
   have hfa:MM t (p:Int)=some (((n.2.2.1,k.srt,n.2.1),()),()):=by
    unfold MM
    rw[Ak,Ab,Ab,AK0 hs (by omega) h2 w2 w3 hkd (by omega),Ad,Ak,Ab,Ab,qZ0,g1]
   rw[hfa,Ad]
   have hfl:∀ x∈funcs,x.2.1.length<=20000:=by
    intro y hy
    have hb2:=hI.f1 y hy
    obtain ⟨⟨n',k'⟩,m1,m2⟩:=List.mem_filterMap.1 (Ot _ hb2)
    unfold CK at m2
    split at m2
    ·simp at m2
    ·split at m2
     ·simp only[Option.some.injEq,Prod.mk.injEq] at m2
      rw[<-m2.2.2.1,DN]
      have:=NG m1;have:=Es k';omega
     ·cases m2
   rcases ABD (t:=t) (vars:=vars) (i:=p) (g:=(n.2.2.1,k.srt,n.2.1)) (show funcs.length<=20000 by omega) hfl funcs.length 0 false (by omega) with ⟨⟨y,y1,y2,y3⟩,z,hz'⟩ | ⟨hy,hz'⟩
   ·rw[show ((0:Nat):Int)=0 from rfl] at hz'
    simp only
    rw[hz']
    simp only[Ad,Bk,Bl,Ap,AA]
    refine .inl ⟨fun hc=>y3 ?_,_,rfl⟩
    rw[hT] at hc
    have hy1:=hI.f1 y (by simpa using y1)
    have:=hc _ (List.mem_append_left _ hy1) (n.2.2.1,true,k.srt,n.2.1) (by simp) y2
    obtain ⟨ya,yb,yc⟩:=y
    simp only[Prod.mk.injEq,true_and] at this ⊢
    exact this
   ·rw[show ((0:Nat):Int)=0 from rfl] at hz'
    simp only
    rw[hz']
    simp only[Ad,AX,Ap,Bool.false_or,List.drop_zero]
    by_cases hk:(funcs.any fun x=>decide (x.1=n.2.2.1))=true
    ·rw[hk]
     simp only[qY2,AA,hwp]
     obtain ⟨y,y1,y2⟩:=List.any_eq_true.1 hk
     have y2':y.1=n.2.2.1:=of_decide_eq_true y2
     have hy1:=hI.f1 y y1
     have e2:=hy y (by simpa using y1) y2'
     rw[e2] at hy1
     exact .inr ⟨_,_,by rw[hT];exact hI.again hy1,by omega,by omega,rfl⟩
    ·rw[Bool.not_eq_true] at hk
     rw[hk]
     simp only[qY1,Ap]
     rw[Ab (by simp[Av];omega),hwp]
     have hx:∀ y∈funcs,y.1≠n.2.2.1:=fun y hy1 e=>List.any_eq_false.1 hk y hy1 (qZ10 e)
     exact .inr ⟨_,_,by rw[hT];exact hI.addF hx,by omega,by simp;omega,rfl⟩
  ·have hu:CK (n,k)=none:=by unfold CK;rw[if_neg e4,if_neg e5]
   rw[hu] at hT
   rw[Ag e5,hwp]
   exact .inr ⟨_,_,by rw[hT];simpa using hI,by omega,by omega,rfl⟩
theorem AHu {F:Tf} {t:List Ac} (hs:D4 t) (hF:F.flat=t) (hw:F.wf=true) (h0:(0:Int)∉F.srt) (hz:F.size<=20000) (hdep:F.dep<=257):∀ (m p:Nat) (vars:List Vr) (funcs:List Fv),p+m=F.size->
 UI (C2 F p) vars funcs->vars.length<=p->funcs.length<=p->
 (¬ Du (Dq F)/\∃ x,Am Gq (t,false,vars,funcs,(p:Int),())=some (.ret,(t,false,x)))\/
 ∃ vars' funcs' y,UI (Dq F) vars' funcs'/\vars'.length<=20000/\funcs'.length<=20000/\Am Gq (t,false,vars,funcs,(p:Int),())=some (.exit 0,(t,false,vars',funcs',y)):=by
 have htl:t.length=F.size:=by rw[<-hF,BN]
 intro m
 induction m with
 |zero=>
  intro p vars funcs hp hI hl hm
  have e:C2 F p=Dq F:=by unfold C2 Dq;rw[List.take_of_length_le (by rw[GU];omega)]
  rw[e] at hI
  exact .inr ⟨vars,funcs,_,hI,by omega,by omega,AY (by unfold Gq;simp only;rw[Ax]) (by simp)⟩
 |succ m ih=>
  intro p vars funcs hp hI hl hm
  rcases ADh hs hF hw h0 hz hdep (p:=p) (by omega) hI hl hm with ⟨h1,x,h2⟩ | ⟨vars',funcs',h1,h2,h3,h4⟩
  ·exact .inl ⟨fun hc=>h1 (hc.mono Ot),x,AY h2 (by simp)⟩
  ·rw[AZ h4]
   exact ih (p+1) vars' funcs' (by omega) h1 h2 h3
theorem ABX {vars:List Vr} {funcs:List Fv} (hl:funcs.length<=20000) {i:Nat} (hi:i < vars.length):∀ (m q:Nat),q+m=funcs.length->
 ((∃ g∈funcs.drop q,(vars.getD i Cb).1=g.1)/\∃ y,Am HB (false,vars,funcs,(i:Int),(q:Int),())=some (.ret,(false,vars,funcs,(i:Int),y)))\/
 ((∀ g∈funcs.drop q,(vars.getD i Cb).1≠g.1)/\∃ y,Am HB (false,vars,funcs,(i:Int),(q:Int),())=some (.exit 9,(false,vars,funcs,(i:Int),y))):=by
 intro m
 induction m with
 |zero=>
  intro q hq
  have e:funcs.drop q=[]:=qY7 (by omega)
  rw[e]
  exact .inr ⟨fun x hx=>absurd hx qY16,_,AY (by unfold HB;simp only;rw[Ax]) (by simp)⟩
 |succ m ih=>
  intro q hq
  have hql:q < funcs.length:=by omega
  have hd:=qY6 hql
  have hg:funcs.getD q (([]:qBs),([]:List Int),(0:Int))=funcs[q]:=by simp[qZ4,hql]
  rw[hd]
  generalize funcs[q]=x at hg hd
  have hstep:HB (false,vars,funcs,(i:Int),(q:Int),())=if (vars.getD i Cb).1=x.1 then some (.ret,(false,vars,funcs,(i:Int),(q:Int),())) else some (.normal,(false,vars,funcs,(i:Int),((q+1:Nat):Int),())):=by
   unfold HB
   simp only
   rw[As,Ak,Ab,Ab,qZ0,qZ0,Ab hi,Ak,Ab,Ab,Ab hql,hg,Aw]
   by_cases h1:(vars.getD i Cb).1=x.1
   ·rw[show ((vars.getD i Cb).1==x.1)=true from beq_iff_eq.2 h1,if_pos h1,Ap]
   ·rw[show ((vars.getD i Cb).1==x.1)=false from beq_eq_false_iff_ne.2 h1,if_neg h1,AA];rfl
  by_cases h1:(vars.getD i Cb).1=x.1
  ·rw[if_pos h1] at hstep
   exact .inl ⟨⟨x,by simp,h1⟩,_,AY hstep (by simp)⟩
  ·rw[if_neg h1] at hstep
   rcases ih (q+1) (by omega) with ⟨⟨z,z1,z2⟩,y,hy⟩ | ⟨hz,y,hy⟩
   ·exact .inl ⟨⟨z,qY13 _ z1,z2⟩,y,by rw[AZ hstep,hy]⟩
   ·refine .inr ⟨fun z hz'=>?_,y,by rw[AZ hstep,hy]⟩
    rcases List.mem_cons.1 hz' with rfl | hz'
    ·exact h1
    ·exact hz z hz'
theorem AHZ {vars:List Vr} {funcs:List Fv} (hv:vars.length<=20000) (hl:funcs.length<=20000):∀ (m i:Nat),i+m=vars.length->
 ((∃ v∈vars.drop i,∃ g∈funcs,v.1=g.1)/\∃ y,Am GI (false,vars,funcs,(i:Int),())=some (.ret,(false,y)))\/
 ((∀ v∈vars.drop i,∀ g∈funcs,v.1≠g.1)/\∃ y,Am GI (false,vars,funcs,(i:Int),())=some (.exit 7,y)):=by
 intro m
 induction m with
 |zero=>
  intro i hi
  have e:vars.drop i=[]:=qY7 (by omega)
  rw[e]
  exact .inr ⟨fun x hx=>absurd hx qY16,_,AY (by unfold GI;simp only;rw[Ax]) (by simp)⟩
 |succ m ih=>
  intro i hi
  have hil:i < vars.length:=by omega
  have hd:=qY6 hil
  have hg:vars.getD i Cb=vars[i]:=by simp[qZ4,hil]
  have hin:=ABX (vars:=vars) hl hil funcs.length 0 (by omega)
  rw[hg] at hin
  rw[hd]
  generalize vars[i]=x at hg hd hin
  rw[List.drop_zero,show ((0:Nat):Int)=0 from rfl] at hin
  rcases hin with ⟨⟨g,g1,g2⟩,y,hy⟩ | ⟨hn,y,hy⟩
  ·refine .inl ⟨⟨x,by simp,g,g1,g2⟩,_,AY (y:=(false,vars,funcs,(i:Int),())) ?_ (by simp)⟩
   unfold GI
   simp only
   rw[As,hy]
   simp only[Ad,Bk,Bl,Ap,AA]
  ·have hgo:GI (false,vars,funcs,(i:Int),())=some (.normal,(false,vars,funcs,((i+1:Nat):Int),())):=by
    unfold GI
    simp only
    rw[As,hy]
    simp only[Ad,AX,Ap]
    rw[Aw]
    rfl
   rcases ih (i+1) (by omega) with ⟨⟨v,v1,v2⟩,y,hy⟩ | ⟨hz,y,hy⟩
   ·exact .inl ⟨⟨v,qY13 _ v1,v2⟩,y,by rw[AZ hgo,hy]⟩
   ·refine .inr ⟨fun z hz'=>?_,y,by rw[AZ hgo,hy]⟩
    rcases List.mem_cons.1 hz' with rfl | hz'
    ·exact hn
    ·exact hz z hz'
theorem AGG {F:Tf} {t:List Ac} (hs:D4 t) (hF:F.flat=t) (hw:F.wf=true) (h0:(0:Int)∉F.srt) (hz:F.size<=20000) (hdep:F.dep<=257):∃ b,NP t=some ((b,()),())/\(b=true ↔ Du (Dq F)):=by
 unfold NP
 rcases AHu hs hF hw h0 hz hdep F.size 0 [] [] (by omega) UI.nil (by simp) (by simp) with ⟨h1,x,h2⟩ | ⟨vars,funcs,y,h1,h2,h3,h4⟩
 ·rw[show ((0:Nat):Int)=0 from rfl] at h2
  rw[h2]
  simp only[Ad,Bk,Bl,Ap,AA]
  exact ⟨false,rfl,fun h=>(by cases h),fun h=>absurd h h1⟩
 ·rw[show ((0:Nat):Int)=0 from rfl] at h4
  rw[h4]
  simp only[Ad,AX,Ap]
  rcases AHZ h2 h3 vars.length 0 (by omega) with ⟨⟨v,v1,g,g1,e⟩,y,hy⟩ | ⟨hn,y,hy⟩
  ·rw[show ((0:Nat):Int)=0 from rfl] at hy
   rw[hy]
   simp only[Ad,Bk,Bl,Ap,AA]
   refine ⟨false,rfl,fun h=>(by cases h),fun hc=>?_⟩
   have:=hc _ (h1.v1 v (by simpa using v1)) _ (h1.f1 g g1) e
   simp at this
  ·rw[show ((0:Nat):Int)=0 from rfl] at hy
   rw[hy]
   simp only[Ad,AX,Ap]
   refine ⟨true,rfl,fun _=>?_,fun _=>rfl⟩
   intro a ha b hb e
   obtain ⟨an,ab,al,azs'⟩:=a
   obtain ⟨bn,bb,bl,bs⟩:=b
   simp only at e
   subst e
   rcases h1.w _ ha with ⟨p1,p2⟩ | p1<;>rcases h1.w _ hb with ⟨q1,q2⟩ | q1<;>simp only at p1 q1
   ·exact h1.c _ ha _ hb rfl (by simp only;rw[p1,q1])
   ·simp only at p2
    subst p1;subst p2;subst q1
    exact absurd rfl (hn _ (by simpa using h1.v2 _ _ ha) _ (h1.f2 _ _ _ hb))
   ·simp only at q2
    subst p1;subst q2;subst q1
    exact absurd rfl (hn _ (by simpa using h1.v2 _ _ hb) _ (h1.f2 _ _ _ ha))
   ·exact h1.c _ ha _ hb rfl (by simp only;rw[p1,q1])
theorem AG6 {t:List Ac} (hs:D4 t):(∃ F,VT t F/\Mh t=some ((F.srt.getD 0 0,()),())/\1<=F.srt.getD 0 0)\/((¬ ∃ F,VT t F)/\Mh t=some ((0,()),())):=by
 unfold Mh
 by_cases hl:t.length > 20000
 ·rw[As]
  refine .inr ⟨fun ⟨F,hF⟩=>?_,rfl⟩
  have:=hF.size
  have h2:=BN F
  rw[hF.flat] at h2
  omega
 rw[Ax]
 obtain ⟨f,hf1,hf2⟩:=O1
 have htr:=Xn hs (by omega) f 0 (by omega) (by omega) 0
 rw[show ((0:Nat):Int)=0 from rfl,List.drop_zero] at htr
 rw[hf1,htr,Ad]
 have hiff:∀ F,VT t F->one 257 t=some (F,[]):=by
  intro F hF
  have:=SG (f:=F) (d:=257) [] hF.wf hF.len hF.dep
  rw[qY4,hF.flat] at this
  exact this
 unfold Dt
 rw[show 257 - 0=257 from rfl]
 cases ho:one 257 t with
 |none=>
  simp only
  rw[Bu (show (-1:Int)≠(t.length:Int) by omega)]
  exact .inr ⟨fun ⟨F,hF⟩=>(by rw[hiff F hF] at ho;cases ho),rfl⟩
 |some x=>
  obtain ⟨F,l'⟩:=x
  obtain ⟨o1,o2,o3,o4⟩:=Oc 257 ho
  simp only
  by_cases hl':l'=[]
  ·subst hl'
   rw[qY4] at o1
   rw[Bm (show (t.length:Int) - (([]:List Ac).length:Int)=(t.length:Int) by simp)]
   obtain ⟨x,hx⟩:∃ x,F.srt=[x]:=by
    have:=DN F
    rw[o3] at this
    match h:F.srt,this with
    |[x],_=>exact ⟨x,rfl⟩
   have hg:F.srt.getD 0 0=x:=by rw[hx];rfl
   have hz:F.size<=20000:=by rw[<-BN,<-o1];omega
   by_cases h0:F.srt.getD 0 0=0
   ·rw[Aq h0]
    refine .inr ⟨fun ⟨G,hG⟩=>?_,rfl⟩
    have:=hiff G hG
    rw[ho] at this
    cases this
    exact hG.srt (by rw[hx,<-hg,h0];simp)
   rw[Ag h0]
   have hn:(0:Int)∉F.srt:=by rw[hx];simp;rw[hg] at h0;exact fun e=>h0 e.symm
   obtain ⟨b,b1,b2⟩:=AGG hs o1.symm o2 hn hz o4
   rw[b1,Ad]
   cases b with
   |true=>
    refine .inl ⟨F,⟨o1.symm,o2,hn,o3,hz,o4,b2.1 rfl⟩,rfl,?_⟩
    have:=Yq F o2 x (by rw[hx];simp)
    omega
   |false=>
    refine .inr ⟨fun ⟨G,hG⟩=>?_,rfl⟩
    have:=hiff G hG
    rw[ho] at this
    cases this
    have:=b2.2 hG.cns
    cases this
  ·have hpos:0 < l'.length:=List.length_pos_iff.2 hl'
   rw[Bu]
   refine .inr ⟨fun ⟨G,hG⟩=>?_,rfl⟩
   have:=hiff G hG
   rw[ho] at this
   cases this
   exact hl' rfl
theorem Y6 {t:List Ac} (hs:D4 t):∃ b,K8 t=some ((b,()),())/\(b=true ↔ ∃ F,VT t F):=by
 unfold K8
 rcases AG6 hs with ⟨F,h1,h2,h3⟩ | ⟨h1,h2⟩
 ·rw[h2,Ad]
  exact ⟨_,rfl,fun _=>⟨F,h1⟩,fun _=>qZ10 (show F.srt.getD 0 0 > 0 by omega)⟩
 ·rw[h2,Ad]
  exact ⟨_,rfl,fun h=>(by cases h),fun h=>absurd h h1⟩
theorem ABh {p q:Rat} (hp:D p<=400000) (hq:D q<=400000):JQ (An p) (An q)=some ((An (p+q),()),()):=by
 have:=BH p;have:=BH q;rw[YT (by omega) (by omega),Ds]
theorem AI9 {p q:Rat} (hp:D p<=400000) (hq:D q<=400000):Hz (An p) (An q)=some ((An (p * q),()),()):=by
 have:=BH p;have:=BH q;rw[QB (by omega) (by omega),Ds]
theorem Yi {p q:Rat} (hp:D p<=100000) (hq:D q<=100000):DP (An p) (An q)=some (((p - q).num.sign,()),()):=by
 have:=BH p;have:=BH q;rw[QC (by omega) (by omega),Dc,Ct,Ct]
theorem AKt {x y:Int} (hz:y≠0) (hp:(An (x:Rat)).length<=30000) (hq:(An (y:Rat)).length<=30000):Hn (An (x:Rat)) (An (y:Rat))=some ((An ((x / y:Int):Rat),()),()):=by
 rw[TP (by omega) (by omega),Fc,Fq,if_neg hz]
theorem AKf {x y:Int} (hz:y≠0) (hp:(An (x:Rat)).length<=30000) (hq:(An (y:Rat)).length<=30000):Me (An (x:Rat)) (An (y:Rat))=some ((An ((x % y:Int):Rat),()),()):=by
 rw[ACs hp hq,H6,Fq,if_neg hz]
theorem YA (b:Bool):Ej b=some ((encS (.b b),()),()):=rfl
theorem VR {op:Int} {a:List Ae} (hl:a.length<=1000000000) (hop:op=7\/op=8) :
 (a.all (fun v=>!(v.2.1==(op==8)))=true/\Am Hy (op,a,zVal,0,())=some (.exit 1,(op,a,zVal,(a.length:Int),())))\/(a.all (fun v=>!(v.2.1==(op==8)))=false/\∃ k:Nat,Am Hy (op,a,zVal,0,())=some (.ret,(op,a,encS (.b (op==8)),(k:Int),()))):=by
 have key:=CN (step:=Hy) (fun k=>(op,a,zVal,(k:Int),())) (fun k=>(op,a,encS (.b (op==8)),(k:Int),())) a.length (E:=.exit 1) (B:=.ret) (by simp) (by simp) (fun k=>!((a.getD k zVal).2.1==(op==8))) (fun k hk=>by
  unfold Hy
  simp only
  rw[As,Ak,Ab,Ab,qZ0,YA,Ad,Aw]
  cases ((a.getD k zVal).2.1==(op==8))<;>rfl) (by
  unfold Hy
  simp only
  rw[Ax])
 rw[Fd a zVal (fun v=>!(v.2.1==(op==8)))] at key
 exact key
theorem AE6 {n:Ac} {vs:List SV} (ho:nOp n=6\/nOp n=7\/nOp n=8\/nOp n=9) (hc:AH (nOp n) vs.length=true) (hl:vs.length<=100000):J4 (nOp n) (vs.map encS)=some ((encS (Br n vs),()),()):=by
 have hlm:(vs.map encS).length<=1000000000:=by rw[List.length_map];omega
 unfold J4 Br
 by_cases e6:nOp n=6
 ·rw[e6] at hc
  rw[Aq e6,if_neg (by omega),if_neg (by omega),if_pos e6]
  rcases vs with _ | ⟨a,_ | ⟨b,l⟩⟩<;>simp[AH] at hc
  ·simp only[List.map_cons,List.map_nil,qZ3]
   rw[Ak,Ab,Ab (by simp),i0,qZ3,EI]
   rfl
  ·omega
 rw[Ag e6]
 by_cases e9:nOp n=9
 ·rw[e9] at hc
  rw[Aq e9,if_neg (by omega),if_neg (by omega),if_neg e6,if_pos e9]
  rcases vs with _ | ⟨a,_ | ⟨b,_ | ⟨c,l⟩⟩⟩<;>simp[AH] at hc
  ·simp only[List.map_cons,List.map_nil,qZ3,qZ2]
   rw[Ak,Ab,Ab (by simp),Ak,Ab,Ab (by simp),i0,i1,qZ2,qZ3,qZ3,EI,EI]
   cases Ck a<;>rfl
  ·omega
 rw[Ag e9]
 have hop:nOp n=7\/nOp n=8:=by omega
 have hz:((0:Int),false,([]:qBs),([]:List qBs),([]:List qBs))=zVal:=rfl
 rw[hz]
 rcases hop with h7 | h8
 ·rw[if_pos (.inr h7)]
  have key:=VR hlm (op:=nOp n) (.inl h7)
  have e8:(nOp n==8)=false:=by rw[h7];rfl
  have e7:(nOp n==7)=true:=by rw[h7];rfl
  rw[e8] at key
  have ha:(vs.map encS).all (fun v=>!(v.2.1==false))=vs.all Ck:=by
   rw[List.all_map]
   congr 1
   funext v
   simp only[Function.comp,EI]
   cases Ck v<;>rfl
  rw[ha] at key
  rcases key with ⟨k1,k2⟩ | ⟨k1,k,k2⟩
  ·rw[k2,k1]
   simp only[Ad,AX,Ap]
   rw[e7];rfl
  ·rw[k2,k1]
   simp only[Ad,Bk,Bl,Ap,AA]
 ·rw[if_neg (by omega),if_pos (.inr h8)]
  have key:=VR hlm (op:=nOp n) (.inr h8)
  have e8:(nOp n==8)=true:=by rw[h8];rfl
  have e7:(nOp n==7)=false:=by rw[h8];rfl
  rw[e8] at key
  have ha:(vs.map encS).all (fun v=>!(v.2.1==true))=!vs.any Ck:=by
   rw[List.all_map,<-Rv]
   congr 1
   funext v
   simp only[Function.comp,EI]
   cases Ck v<;>rfl
  rw[ha] at key
  rcases key with ⟨k1,k2⟩ | ⟨k1,k,k2⟩
  ·have k1':vs.any Ck=false:=by simpa using k1
   rw[k2,k1']
   simp only[Ad,AX,Ap]
   rw[e7];rfl
  ·have k1':vs.any Ck=true:=by simpa using k1
   rw[k2,k1']
   simp only[Ad,Bk,Bl,Ap,AA]
abbrev Xe:=(List Ac)×(List AN)×List Interp
theorem ACB (x0:Xe) (t6:Ae) (L:List SV) (hL:L.length<=100000):∀ (vs pre:List SV) (a B:Nat) (r:Rat),L=pre++vs->(∀ v∈vs,Ay v=2\/Ay v=3)->Ht a r->Hs vs B->a+B<=190000->
 Am L7 (x0,L.map encS,t6,An r,(pre.length:Int),())=some (.exit 3,(x0,L.map encS,t6,An (vs.foldl (fun s v=>s+A5 v) r),(L.length:Int),())):=by
 intro vs
 induction vs with
 |nil=>
  intro pre a B r hL' _ _ _ _
  have:pre.length=L.length:=by rw[hL'];simp
  refine AY ?_ (by simp)
  unfold L7
  simp only
  rw[Ax (by rw[List.length_map];omega),this]
  rfl
 |cons w vs ih=>
  intro pre a B r hL' hs hr hB hab
  obtain ⟨b,c,h1,h2,h3,h4⟩:=hB
  have hlen:L.length=pre.length+(vs.length+1):=by rw[hL'];simp
  have hg:(L.map encS).getD pre.length zVal=encS w:=by
   rw[Un (by omega),hL'];simp[qZ4]
  have hw:=CG h2 h1
  rw[AZ (y:=(x0,L.map encS,t6,An (r+A5 w),((pre++[w]).length:Int),())) (by
   unfold L7
   simp only
   rw[As (by rw[List.length_map];omega),Ak,Ab,Ab (by rw[List.length_map];omega),qZ0,hg,DL (hs w (by simp)),ABh (by have:=hr.D;omega) (by have:=hw.D;omega),Ad,Aw]
   simp)]
  rw[ih (pre++[w]) (a+b+1) c (r+A5 w) (by rw[hL'];simp) (fun v hv=>hs v (by simp[hv])) (O8 hr hw) h3 (by omega)]
  rfl
theorem AD1 {B:Nat} {a b:SV} (h:C0 B a) (hB:B<=90000):HC (encS a) (encS b)=some ((decide (encS a=encS b),()),()):=by
 cases a with
 |a d P=>
  have:=h.2.2
  exact II (by simp only[encS,Bj];omega) (by simp only[encS,B_];omega)
 |b x=>exact II (by simp[encS]) (by simp[encS])
 |z x=>exact II (by simp[encS]) (by simp[encS])
 |q x=>exact II (by simp[encS]) (by simp[encS])
theorem AHb {x0:Xe} {n:Ac} {vs:List SV} {B:Nat} {f:Int} (hn:Bq n=true) (h4:nOp n≠4) (h5:nOp n≠5) (hc:AH (nOp n) vs.length=true) (hs:AQ n f (vs.map Ay)≠0)
 (hok:∀ v∈vs,Cw v) (hB:Hs vs B) (hB9:B<=29000) (hnn:Ht 75 (B2 n)) (hl:vs.length<=100000):Gl x0 n (vs.map encS)=some ((encS (Br n vs),0,()),(x0,())):=by
 have hop:=UX hn
 have hlog:nOp n=6\/nOp n=7\/nOp n=8\/nOp n=9->J4 (nOp n) (vs.map encS)=some ((encS (Br n vs),()),()):=fun h=>AE6 h hc hl
 unfold Gl
 have hO:n.1=nOp n:=rfl
 have hN:n.2.2.2.1=Bg n:=rfl
 have hS:n.2.1=A3 n:=rfl
 rw[hO,hN,hS]
 by_cases e1:nOp n=1
 ·have hv:Br n vs=.b (vs.all Ck):=by unfold Br;rw[if_pos (.inl e1)]
  rw[e1] at hc
  have:vs=[]:=by
   have:vs.length=0:=by simp[AH] at hc;simpa using hc
   exact List.length_eq_zero_iff.1 this
  rw[Aq e1,hv,this,e1]
  rfl
 rw[Ag e1]
 by_cases e2:nOp n=2
 ·have hv:Br n vs=.b (vs.any Ck):=by unfold Br;rw[if_neg (by omega),if_pos (.inl e2)]
  rw[e2] at hc
  have:vs=[]:=by
   have:vs.length=0:=by simp[AH] at hc;simpa using hc
   exact List.length_eq_zero_iff.1 this
  rw[Aq e2,hv,this,e2]
  rfl
 rw[Ag e2]
 by_cases e3:nOp n=3
 ·rw[Aq e3]
  obtain ⟨a1,a2,a3⟩:=PT hn e3
  have:Br n vs=C8 (A3 n) (B2 n):=by unfold Br;simp[e3]
  rw[this,IP a1 a3,a2]
 rw[Ag e3,Ag h4,Ag h5]
 by_cases e10:nOp n=10
 ·have hv:Br n vs=(if Ck (vs.getD 0 (.b false))=true then vs.getD 1 (.b false) else vs.getD 2 (.b false)):=by
   unfold Br
   rw[if_neg (by omega),if_neg (by omega),if_neg (by omega),if_neg (by omega),if_pos e10]
  rw[e10] at hc
  rw[Aq e10,hv]
  rcases vs with _ | ⟨a,_ | ⟨b,_ | ⟨c,_ | ⟨d,l⟩⟩⟩⟩<;>simp[AH] at hc
  ·simp only[List.map_cons,List.map_nil,qZ3,qZ2]
   rw[Ak,Ab,Ab (by simp),Ak,Ab,Ab (by simp),Ak,Ab,Ab (by simp),i0,i1,i2,qZ2,qZ2,qZ2,qZ3,qZ3,qZ3,EI]
   cases Ck a<;>rfl
  ·omega
 rw[Ag e10]
 by_cases e11:nOp n=11
 ·have hv:Br n vs=.b (@decide (vs.getD 0 (.b false)=vs.getD 1 (.b false)) (Classical.propDecidable _)):=by
   unfold Br
   rw[if_neg (by omega),if_neg (by omega),if_neg (by omega),if_neg (by omega),if_neg e10,if_pos e11]
  rw[e11] at hc
  rw[Aq e11,hv]
  rcases vs with _ | ⟨a,_ | ⟨b,_ | ⟨c,l⟩⟩⟩<;>simp[AH] at hc
  ·simp only[List.map_cons,List.map_nil,qZ3,qZ2]
   rw[Ak,Ab,Ab (by simp),Ak,Ab,Ab (by simp),i0,i1,qZ2,qZ3,qZ3,AD1 (hB.mem a (by simp)) (by omega),Ad,YA,Ad]
   simp only[qZ3,qZ2]
   exact congrArg (fun x=>some ((encS (SV.b x),(0:Int),()),(x0,()))) (YC a b)
  ·omega
 rw[Ag e11]
 have hnum:nOp n=12\/nOp n=13->∃ a b,vs=[a,b]/\(Ay a=2\/Ay a=3)/\(Ay b=2\/Ay b=3):=by
  intro ho
  have hc2:vs.length=2:=by
   rcases ho with ho | ho<;>rw[ho] at hc<;>simp[AH] at hc<;>omega
  unfold AQ at hs
  rw[if_neg (by omega),if_neg (by omega),if_neg (by omega),if_neg (by omega),if_pos ho] at hs
  rcases vs with _ | ⟨a,_ | ⟨b,_ | ⟨c,l⟩⟩⟩<;>simp at hc2
  ·simp only[List.map_cons,List.map_nil,qZ3] at hs
   split at hs
   ·rename_i hh
    have hb:Ay b=Ay a:=hh.2 _ (by simp)
    exact ⟨a,b,rfl,hh.1,by rw[hb];exact hh.1⟩
   ·exact absurd rfl hs
 by_cases e12:nOp n=12
 ·obtain ⟨a,b,rfl,ha,hb⟩:=hnum (.inl e12)
  have qa:=(CG ((hB.mem a (by simp)).mono (Nat.le_add_right B 1)) (by omega)).D
  have qb:=(CG ((hB.mem b (by simp)).mono (Nat.le_add_right B 1)) (by omega)).D
  have hv:Br n [a,b]=.b (decide (A5 a<=A5 b)):=by
   unfold Br
   rw[if_neg (by omega),if_neg (by omega),if_neg (by omega),if_neg (by omega),if_neg e10,if_neg e11,if_pos e12]
   simp only[qZ3,qZ2]
  rw[Aq e12,hv]
  simp only[List.map_cons,List.map_nil]
  rw[Ak,Ab,Ab (by simp),Ak,Ab,Ab (by simp),i0,i1,qZ2,qZ3,qZ3,DL ha,DL hb,Yi (by omega) (by omega),Ad]
  simp only
  have e:decide ((A5 a - A5 b).num.sign<=0)=decide (A5 a<=A5 b):=by rw[decide_eq_decide];exact W9 _ _
  rw[e];rfl
 rw[Ag e12]
 by_cases e13:nOp n=13
 ·obtain ⟨a,b,rfl,ha,hb⟩:=hnum (.inr e13)
  have qa:=(CG ((hB.mem a (by simp)).mono (Nat.le_add_right B 1)) (by omega)).D
  have qb:=(CG ((hB.mem b (by simp)).mono (Nat.le_add_right B 1)) (by omega)).D
  have hv:Br n [a,b]=.b (decide (A5 a < A5 b)):=by
   unfold Br
   rw[if_neg (by omega),if_neg (by omega),if_neg (by omega),if_neg (by omega),if_neg e10,if_neg e11,if_neg e12,if_pos e13]
   simp only[qZ3,qZ2]
  rw[Aq e13,hv]
  simp only[List.map_cons,List.map_nil]
  rw[Ak,Ab,Ab (by simp),Ak,Ab,Ab (by simp),i0,i1,qZ2,qZ3,qZ3,DL ha,DL hb,Yi (by omega) (by omega),Ad]
  simp only
  have e:decide ((A5 a - A5 b).num.sign < 0)=decide (A5 a < A5 b):=by rw[decide_eq_decide];exact S5 _ _
  rw[e];rfl
 rw[Ag e13]
 by_cases hlo:nOp n=6\/nOp n=7\/nOp n=8\/nOp n=9
 ·rw[Ag,Ag,Ag,Ag,Ag,Ag,Ag,hlog hlo,Ad]
 clear hlog hnum
 have hv:Br n vs=if nOp n=14 then C8 (Ay (vs.getD 0 (.b false))) (Kg vs)
  else if nOp n=15 then C8 (Ay (vs.getD 0 (.b false))) (A5 (vs.getD 0 (.b false)) * A5 (vs.getD 1 (.b false)))
  else if nOp n=16 then .z (intV (vs.getD 0 (.b false)) / (B2 n).num)
  else if nOp n=17 then .z (intV (vs.getD 0 (.b false)) % (B2 n).num)
  else if nOp n=18 then .z (N' (vs.getD 0 (.b false)) (intV (vs.getD 1 (.b false))))
  else if nOp n=19 then NK (vs.getD 0 (.b false)) (intV (vs.getD 1 (.b false))) (intV (vs.getD 2 (.b false)))
  else .a (intV (vs.getD 0 (.b false))) []:=by
  unfold Br
  rw[if_neg (by omega),if_neg (by omega),if_neg (by omega),if_neg (by omega),if_neg (by omega),if_neg (by omega),if_neg (by omega),if_neg (by omega),if_neg e3]
 rw[hv]
 have hst:AQ n f (vs.map Ay)=if nOp n=14 then (if ((vs.map Ay).getD 0 0=2\/(vs.map Ay).getD 0 0=3)/\∀ s∈vs.map Ay,s=(vs.map Ay).getD 0 0 then (vs.map Ay).getD 0 0 else 0)
  else if nOp n=15 then (if f=3/\((vs.map Ay).getD 0 0=2\/(vs.map Ay).getD 0 0=3)/\∀ s∈vs.map Ay,s=(vs.map Ay).getD 0 0 then (vs.map Ay).getD 0 0 else 0)
  else if nOp n=16\/nOp n=17 then (if (vs.map Ay).getD 0 0=2 then 2 else 0)
  else if nOp n=18 then (if (vs.map Ay).getD 0 0=4/\(vs.map Ay).getD 1 0=2 then 2 else 0)
  else if nOp n=19 then (if (vs.map Ay).getD 0 0=4/\(vs.map Ay).getD 1 0=2/\(vs.map Ay).getD 2 0=2 then 4 else 0)
  else if nOp n=20 then (if (vs.map Ay).getD 0 0=2 then 4 else 0) else 0:=by
  unfold AQ
  rw[if_neg (by omega),if_neg (by omega),if_neg (by omega),if_neg (by omega),if_neg (by omega)]
 rw[hst] at hs
 clear hv hst
 by_cases e14:nOp n=14
 ·rw[e14] at hc
  rw[if_pos e14] at hs
  rw[Aq e14,if_pos e14]
  rcases vs with _ | ⟨a,l⟩
  ·simp[AH] at hc
  ·simp only[List.map_cons,qZ3] at hs ⊢
   split at hs
   ·rename_i hh
    obtain ⟨g1,g2⟩:=hh
    have hall:∀ v∈a::l,Ay v=Ay a:=fun v hv=>g2 (Ay v) (by
     rcases List.mem_cons.1 hv with rfl | hv
     ·simp
     ·exact qY13 _ (List.mem_map_of_mem hv))
    have h0:Ht 1 ((0:Int):Rat):=Ee (by simp[BC])
    have key:=ACB x0 ((0:Int),false,([]:qBs),([]:List qBs),([]:List qBs)) (a::l) hl (a::l) [] 1 B ((0:Int):Rat) rfl (fun v hv=>by rw[hall v hv];exact g1) h0 hB (by omega)
    rw[<-t0] at key
    simp only[List.length_nil,List.map_cons] at key
    rw[show ((0:Nat):Int)=0 from rfl] at key
    rw[key]
    simp only[Ad,AX,Ap]
    rw[Ak,Ab,Ab (by simp),i0,qZ3,FC]
    have e:Kg (a::l)=(a::l).foldl (fun s v=>s+A5 v) ((0:Int):Rat):=rfl
    rw[e,IP g1 fun h2=>WE _ _ (Rat.den_intCast 0) fun v hv=>by rw[hall v hv];exact h2]
   ·exact absurd rfl hs
 rw[if_neg e14] at hs
 rw[Ag e14,if_neg e14]
 by_cases e15:nOp n=15
 ·rw[e15] at hc
  rw[if_pos e15] at hs
  rw[Aq e15,if_pos e15]
  rcases vs with _ | ⟨a,_ | ⟨b,_ | ⟨c,l⟩⟩⟩<;>simp[AH] at hc
  ·simp only[List.map_cons,List.map_nil,qZ3,qZ2] at hs ⊢
   split at hs
   ·rename_i hh
    obtain ⟨_,g1,g2⟩:=hh
    have hb:Ay b=Ay a:=g2 _ (by simp)
    obtain ⟨x,c,q1,q2,⟨y,c2,q5,q6,q7,q8⟩,q4⟩:=hB
    have ha':=(CG q2 q1).D
    have hb':=(CG q6 q5).D
    rw[Ak,Ab,Ab (by simp),Ak,Ab,Ab (by simp),Ak,Ab,Ab (by simp),i0,i1,qZ2,qZ3,qZ3,
     DL g1,DL (by rw[hb];exact g1),AI9 (by omega) (by omega),Ad,FC]
    rw[IP g1 fun h2=>by
     rw[(C4 h2).2.2,(C4 (hb.trans h2)).2.2,<-Rat.intCast_mul,Rat.den_intCast]]
   ·exact absurd rfl hs
  ·omega
 rw[if_neg e15] at hs
 rw[Ag e15,if_neg e15]
 by_cases e16:nOp n=16
 ·rw[e16] at hc
  rw[if_pos (.inl e16)] at hs
  rw[Aq e16,if_pos e16]
  obtain ⟨m,m1,m2,m3⟩:=Mw hn (.inl e16)
  rcases vs with _ | ⟨a,_ | ⟨b,l⟩⟩<;>simp[AH] at hc
  ·simp only[List.map_cons,List.map_nil,qZ3] at hs ⊢
   split at hs
   ·rename_i hh
    have hi:=C4 hh
    have h1:=Ew (Fw ((hB.mem a (by simp)).mono (Nat.le_add_right B 1)) (by omega))
    have h2:=HV hnn
    rw[m3] at h2
    have h2:=Ew h2
    unfold ti at h1 h2
    rw[Ak,Ab,Ab (by simp),i0,qZ3,hi.2.1,m2,m3]
    unfold ti
    rw[AKt (by omega) (by omega) (by omega),Ad]
    rfl
   ·exact absurd rfl hs
  ·omega
 rw[Ag e16,if_neg e16]
 by_cases e17:nOp n=17
 ·rw[e17] at hc
  rw[if_pos (.inr e17)] at hs
  rw[Aq e17,if_pos e17]
  obtain ⟨m,m1,m2,m3⟩:=Mw hn (.inr e17)
  rcases vs with _ | ⟨a,_ | ⟨b,l⟩⟩<;>simp[AH] at hc
  ·simp only[List.map_cons,List.map_nil,qZ3] at hs ⊢
   split at hs
   ·rename_i hh
    have hi:=C4 hh
    have h1:=Ew (Fw ((hB.mem a (by simp)).mono (Nat.le_add_right B 1)) (by omega))
    have h2:=HV hnn
    rw[m3] at h2
    have h2:=Ew h2
    unfold ti at h1 h2
    rw[Ak,Ab,Ab (by simp),i0,qZ3,hi.2.1,m2,m3]
    unfold ti
    rw[AKf (by omega) (by omega) (by omega),Ad]
    rfl
   ·exact absurd rfl hs
  ·omega
 rw[if_neg (by omega)] at hs
 rw[Ag e17,if_neg e17]
 by_cases e18:nOp n=18
 ·rw[e18] at hc
  rw[if_pos e18] at hs
  rw[Aq e18,if_pos e18]
  rcases vs with _ | ⟨a,_ | ⟨b,_ | ⟨c,l⟩⟩⟩<;>simp[AH] at hc
  ·simp only[List.map_cons,List.map_nil,qZ3,qZ2] at hs ⊢
   split at hs
   ·rename_i hh
    obtain ⟨d,P,rfl⟩:=Nz hh.1
    have hP:Canon d P:=hok _ (List.mem_cons_self)
    have hi:=C4 hh.2
    have hsm:=Om (hB.mem (.a d P) (by simp)) (by omega)
    have h1:=Ew (Fw ((hB.mem b (by simp)).mono (Nat.le_add_right B 1)) (by omega))
    rw[Ak,Ab,Ab (by simp),Ak,Ab,Ab (by simp),i0,i1,qZ2,qZ3,qZ3,hi.2.1]
    have e:encS (.a d P)=AI d P:=rfl
    rw[e,AEX (N:=100000) (by omega) hP hsm (by omega),Ad]
    rfl
   ·exact absurd rfl hs
  ·omega
 rw[if_neg e18] at hs
 rw[Ag e18,if_neg e18]
 by_cases e19:nOp n=19
 ·rw[e19] at hc
  rw[if_pos e19] at hs
  rw[Aq e19,if_pos e19]
  rcases vs with _ | ⟨a,_ | ⟨b,_ | ⟨c,_ | ⟨d,l⟩⟩⟩⟩<;>simp[AH] at hc
  ·simp only[List.map_cons,List.map_nil,qZ3,qZ2] at hs ⊢
   split at hs
   ·rename_i hh
    obtain ⟨d,P,rfl⟩:=Nz hh.1
    have hP:Canon d P:=hok _ (List.mem_cons_self)
    have hi:=C4 hh.2.1
    have hj:=C4 hh.2.2
    have hsm:=Om (hB.mem (.a d P) (by simp)) (by omega)
    have h1:=Ew (Fw ((hB.mem b (by simp)).mono (Nat.le_add_right B 1)) (by omega))
    have h2:=Ew (Fw ((hB.mem c (by simp)).mono (Nat.le_add_right B 1)) (by omega))
    rw[Ak,Ab,Ab (by simp),Ak,Ab,Ab (by simp),Ak,Ab,Ab (by simp),i0,i1,i2,qZ2,qZ2,qZ2,qZ3,qZ3,qZ3,hi.2.1,hj.2.1]
    have e:encS (.a d P)=AI d P:=rfl
    rw[e,O9 (N:=100000) (by omega) hP hsm (by omega) (by omega),Ad]
    rfl
   ·exact absurd rfl hs
  ·omega
 rw[if_neg e19] at hs
 rw[Ag e19,if_neg e19]
 have e20:nOp n=20:=by omega
 rw[Aq e20]
 rw[e20] at hc
 rw[if_pos e20] at hs
 rcases vs with _ | ⟨a,_ | ⟨b,l⟩⟩<;>simp[AH] at hc
 ·simp only[List.map_cons,List.map_nil,qZ3] at hs ⊢
  split at hs
  ·rename_i hh
   have hi:=C4 hh
   rw[Ak,Ab,Ab (by simp),i0,qZ3,hi.2.1]
   rfl
  ·exact absurd rfl hs
 ·omega
structure RM (A:qBs->Option SV) (G:Ac->List SV->Int ⊕ SV) (env:List AN) (fns:List Interp):Prop where
 var:∀ nm,(env.find? fun b=>decide (b.1=nm)).map (·.2)=(A nm).map encS
 len:env.length<=1000000000
 call:∀ t n vs B,Hs vs B->B<=29000->Mb (t,env,fns) n (vs.map encS)=some ((match G n vs with | .inl e=>(zVal,e,()) | .inr v=>(encS v,0,())),((t,env,fns),()))
theorem AHe (x0:Xe) (hl:x0.2.1.length<=1000000000) (n:Ac):∀ (m i:Nat),i+m=x0.2.1.length->
 match (x0.2.1.drop i).find? (fun b=>decide (b.1=n.2.2.1)) with
 |none=>∃ y,Am HN (x0,n,zVal,0,(i:Int),())=some (.exit 1,(x0,y))
 |some b=>∃ y,Am HN (x0,n,zVal,0,(i:Int),())=some (.ret,(x0,n,(if b.2.1=n.2.1 then b.2 else zVal),(if b.2.1=n.2.1 then 0 else 3),y)):=by
 intro m
 induction m with
 |zero=>
  intro i hi
  have e:x0.2.1.drop i=[]:=qY7 (by omega)
  rw[e]
  exact ⟨_,AY (by unfold HN;simp only;rw[Ax]) (by simp)⟩
 |succ m ih=>
  intro i hi
  have hil:i < x0.2.1.length:=by omega
  have hd:=qY6 hil
  have hg:x0.2.1.getD i DO=x0.2.1[i]:=by simp[qZ4,hil]
  rw[hd]
  generalize x0.2.1[i]=b at hg hd
  have hstep:HN (x0,n,zVal,0,(i:Int),())=if b.1=n.2.2.1 then some (.ret,(x0,n,(if b.2.1=n.2.1 then b.2 else zVal),(if b.2.1=n.2.1 then 0 else 3),(i:Int),())) else some (.normal,(x0,n,zVal,0,((i+1:Nat):Int),())):=by
   unfold HN
   simp only
   rw[As,Ak,Ab,Ab,qZ0,hg,Aw]
   by_cases h1:b.1=n.2.2.1
   ·rw[show (b.1==n.2.2.1)=true by simpa using h1,if_pos h1,Ap,Ak,Ab,Ab]
    by_cases h2:b.2.1=n.2.1
    ·rw[Bm h2,if_pos h2,if_pos h2,Ak,Ab,Ab]
    ·rw[Bu h2,if_neg h2,if_neg h2]
   ·rw[show (b.1==n.2.2.1)=false by simpa using h1,if_neg h1,AA];rfl
  by_cases h1:b.1=n.2.2.1
  ·rw[if_pos h1] at hstep
   rw[List.find?_cons,qZ10 h1]
   exact ⟨_,AY hstep (by simp)⟩
  ·rw[if_neg h1] at hstep
   rw[List.find?_cons,qZ9 h1]
   have:=ih (i+1) (by omega)
   simp only
   cases hf:(x0.2.1.drop (i+1)).find? (fun b=>decide (b.1=n.2.2.1)) with
   |none=>
    rw[hf] at this
    obtain ⟨y,hy⟩:=this
    exact ⟨y,by rw[AZ hstep,hy]⟩
   |some c=>
    rw[hf] at this
    obtain ⟨y,hy⟩:=this
    exact ⟨y,by rw[AZ hstep,hy]⟩
def Vl (A:qBs->Option SV) (G:Ac->List SV->Int ⊕ SV) (x0:Xe) (ev:Xe->Int->Option ((Ae×Int×Int×Unit)×(Xe×Unit))) (d:Nat):Prop:=
 ∀ (n:Ac) (k:Tf) (p:Nat) (rest:List Ac),x0.1.drop p=n::(k.flat++rest)->(cons n k nil).wf=true->(0:Int)∉(cons n k nil).srt->D_ (cons n k nil)->k.dep+1<=d->
  match evF A G (cons n k nil) with
  |.inl e=>∃ v j,ev x0 (p:Int)=some ((v,j,e,()),(x0,()))
  |.inr [v]=>ev x0 (p:Int)=some ((encS v,((p+1+k.size:Nat):Int),0,()),(x0,()))
  |.inr _=>False
theorem Qb {A:qBs->Option SV} {G:Ac->List SV->Int ⊕ SV} (n:Ac) (k r:Tf):evF A G (cons n k r)=match evF A G (cons n k nil) with
 |.inl e=>.inl e
 |.inr us=>match evF A G r with
  |.inl e=>.inl e
  |.inr ws=>.inr (us++ws):=by
 simp only[evF]
 cases evF A G k with
 |inl e=>rfl
 |inr vs=>
  simp only
  cases E3 A G n vs with
  |inl e=>rfl
  |inr v=>
   simp only
   cases evF A G r<;>rfl
theorem AIt {A:qBs->Option SV} {G:Ac->List SV->Int ⊕ SV} (hE:EA A G) {x0:Xe} (ht:x0.1.length<=20000) {ev:Xe->Int->Option ((Ae×Int×Int×Unit)×(Xe×Unit))} {d:Nat} (hev:Vl A G x0 ev d) (m:Ac) :
 ∀ (k:Tf) (p:Nat) (rest:List Ac) (acc:List Ae) (idx:Nat),x0.1.drop p=k.flat++rest->k.wf=true->(0:Int)∉k.srt->D_ k->k.dep<=d->((idx+k.len:Nat):Int)=m.2.2.2.2->acc.length+k.len<=100000->idx+k.len<=100000->
 match evF A G k with
 |.inl e=>∃ y,Am (G7 ev) (x0,(p:Int),zVal,(0:Int),(0:Int),m,acc,(idx:Int),())=some (.ret,y)/\y.1=x0/\y.2.2.2.2.1=e
 |.inr vs=>∃ z,Am (G7 ev) (x0,(p:Int),zVal,(0:Int),(0:Int),m,acc,(idx:Int),())=some (.exit 0,(x0,((p+k.size:Nat):Int),zVal,(0:Int),(0:Int),m,acc++vs.map encS,z)):=by
 intro k
 induction k with
 |nil=>
  intro p rest acc idx _ _ _ _ _ hK _ _
  simp only[evF]
  simp only[len,Nat.add_zero] at hK
  refine ⟨_,AY (y:=(x0,(p:Int),zVal,(0:Int),(0:Int),m,acc++[],(idx:Int),())) ?_ (by simp)⟩
  unfold G7
  simp only
  rw[Ax,qY4]
 |cons n k r ik ir=>
  intro p rest acc idx hd hw hs hn hdep hK h1 h2
  obtain ⟨w1,w2,w3,w4⟩:=CF.1 hw
  obtain ⟨s1,s2,s3⟩:=EF.1 hs
  simp only[dep] at hdep
  simp only[len] at hK h1 h2
  simp only[flat,qY5,qZ1] at hd
  have hsing:=hev n k p (r.flat++rest) hd (CF.2 ⟨w1,w2,w3,rfl⟩) (EF.2 ⟨s1,s2,by simp[srt]⟩) (fun x hx=>hn x (by simp only[flat,qY12,qZ7] at hx ⊢;rcases hx with h | h | h;exact .inl h;exact .inr (.inl h);cases h)) (by omega)
  have hlen:p+1+k.size+r.size+rest.length=x0.1.length:=by
   have:=congrArg List.length hd
   simp only[List.length_drop,qY11,qZ6,BN] at this
   omega
  have hd':x0.1.drop (p+1+k.size)=r.flat++rest:=by
   have:=congrArg (List.drop (1+k.size)) hd
   rw[List.drop_drop] at this
   have e:p+(1+k.size)=p+1+k.size:=by omega
   rw[e] at this
   rw[this,Nat.add_comm 1,List.drop_succ_cons,List.drop_append_of_le_length (by rw[BN];omega),qY7 (by rw[BN];omega),qY15]
  rw[Qb]
  cases he:evF A G (cons n k nil) with
  |inl e=>
   rw[he] at hsing
   obtain ⟨v,j,hy⟩:=hsing
   simp only
   refine ⟨(x0,(p:Int),zVal,(0:Int),e,m,acc,(idx:Int),()),AY ?_ (by simp),rfl,rfl⟩
   unfold G7
   simp only
   rw[As,hy,Ad,Bu (Rm hE _ e he)]
  |inr us=>
   rw[he] at hsing
   match us,hsing with
   |[v],hsing=>
    simp only at hsing ⊢
    have hgo:G7 ev (x0,(p:Int),zVal,(0:Int),(0:Int),m,acc,(idx:Int),())=some (.normal,(x0,((p+1+k.size:Nat):Int),zVal,(0:Int),(0:Int),m,acc++[encS v],((idx+1:Nat):Int),())):=by
     unfold G7
     simp only
     rw[As,hsing,Ad,Bm rfl,Ab (by simp[Av];omega),Aw]
     rfl
    have ihr:=ir (p+1+k.size) rest (acc++[encS v]) (idx+1) hd' w4 s3 (fun x hx=>hn x (by simp only[flat,qY12,qZ7];exact .inr (.inr hx))) (by omega) (by omega) (by simp;omega) (by omega)
    cases hr:evF A G r with
    |inl e=>
     rw[hr] at ihr
     obtain ⟨y,h,h'⟩:=ihr
     exact ⟨y,by rw[AZ hgo,h],h'⟩
    |inr ws=>
     rw[hr] at ihr
     simp only at ihr ⊢
     obtain ⟨z,ihr⟩:=ihr
     refine ⟨z,?_⟩
     rw[AZ hgo,ihr]
     have e:p+1+k.size+r.size=p+(cons n k r).size:=by simp only[size];omega
     rw[e]
     simp
theorem ABP {A:qBs->Option SV} {G:Ac->List SV->Int ⊕ SV} (hE:EA A G) {x0:Xe} (hM:RM A G x0.2.1 x0.2.2) (ht:x0.1.length<=360) :
 ∀ d,Vl A G x0 (GC d) d:=by
 intro d
 induction d with
 |zero=>intro n k p rest _ _ _ _ h;omega
 |succ d ih=>
  intro n k p rest hd hw hs hn hdep
  obtain ⟨w1,w2,w3,w4⟩:=CF.1 hw
  obtain ⟨s1,s2,s3⟩:=EF.1 hs
  obtain ⟨g1,g2⟩:=Ff (d:=Az) hd
  have hnk:D_ k:=fun m hm=>hn m (by simp only[flat,qY12,qZ7];exact .inr (.inl hm))
  have hd':x0.1.drop (p+1)=k.flat++rest:=by
   have:=congrArg (List.drop 1) hd
   rw[List.drop_drop] at this
   simpa using this
  have hlen:p+1+k.size+rest.length=x0.1.length:=by
   have:=congrArg List.length hd
   simp only[List.length_drop,qY11,qZ6,BN] at this
   omega
  have hkl:=Es k
  have hK:n.2.2.2.2=(k.len:Int):=w2
  have hkids:=AIt hE (by omega) ih n k (p+1) rest [] 0 hd' w3 s1 hnk (by omega) (by rw[hK];simp) (by simp;omega) (by omega)
  have hwp:qI ((p:Int)+1)=((p+1:Nat):Int):=by rw[Aw];rfl
  have hunf:GC (d+1) x0 (p:Int)=OG (GC d) x0 (p:Int):=rfl
  rw[hunf]
  unfold OG
  have hz:((0:Int),false,([]:qBs),([]:List qBs),([]:List qBs))=zVal:=rfl
  rw[Ak,Ab,Ab,qZ0,g1,hwp,hz]
  rw[show ((0:Nat):Int)=0 from rfl] at hkids
  simp only[evF]
  cases hk:evF A G k with
  |inl e=>
   rw[hk] at hkids
   obtain ⟨y,h,h1,h2⟩:=hkids
   simp only
   rw[h]
   simp only[Ad,Bk,Bl,Ap,AA]
   exact ⟨_,_,by rw[h1,h2]⟩
  |inr vs=>
   rw[hk] at hkids
   obtain ⟨e1,e2,e3⟩:=AC hE k w3 s1 hnk vs hk
   obtain ⟨z,hkids⟩:=hkids
   simp only
   rw[hkids]
   simp only[Ad,AX,Ap,qY15]
   have hvl:vs.length=k.len:=by
    have:=congrArg List.length e1
    rw[List.length_map,DN] at this
    exact this
   unfold E3
   by_cases h4:nOp n=4
   ·rw[if_pos h4]
    have hnode:Gl x0 n (vs.map encS)=some ((match (A (Bo n)) with | none=>(zVal,7,()) | some v=>if Ay v=A3 n then (encS v,0,()) else (zVal,3,())),(x0,())):=by
     unfold Gl
     have hO:n.1=4:=h4
     rw[hz,Ag,Ag,Ag,Aq hO]
     have hv:=hM.var n.2.2.1
     have hA:A (Bo n)=A n.2.2.1:=rfl
     have key:=AHe x0 hM.len n x0.2.1.length 0 (by omega)
     rw[show ((0:Nat):Int)=0 from rfl,List.drop_zero] at key
     rw[hA]
     cases hf:x0.2.1.find? (fun b=>decide (b.1=n.2.2.1)) with
     |none=>
      rw[hf] at key hv
      obtain ⟨y,hy⟩:=key
      rw[hy]
      simp only[Ad,AX,Ap]
      cases hAn:A n.2.2.1 with
      |none=>rfl
      |some v=>rw[hAn] at hv;cases hv
     |some b=>
      rw[hf] at key hv
      obtain ⟨y,hy⟩:=key
      rw[hy]
      simp only[Ad,Bk,Bl,Ap,AA]
      cases hAn:A n.2.2.1 with
      |none=>rw[hAn] at hv;cases hv
      |some v=>
       rw[hAn] at hv
       simp only[Option.map_some,Option.some.injEq] at hv
       rw[hv]
       simp only[FC]
       by_cases q:Ay v=n.2.1
       ·rw[if_pos q,if_pos q,if_pos q]
       ·rw[if_neg q,if_neg q,if_neg q]
    rw[hnode]
    cases A (Bo n) with
    |none=>exact ⟨_,_,rfl⟩
    |some v=>
     simp only
     by_cases q:Ay v=A3 n
     ·rw[if_pos q,if_pos q]
      rfl
     ·rw[if_neg q,if_neg q]
      exact ⟨_,_,rfl⟩
   ·rw[if_neg h4]
    by_cases h5:nOp n=5
    ·rw[if_pos h5]
     have hnode:Gl x0 n (vs.map encS)=some ((match G n vs with | .inl e=>(zVal,e,()) | .inr v=>(encS v,0,())),(x0,())):=by
      unfold Gl
      have hO:n.1=5:=h5
      have hc:=hM.call x0.1 n vs _ e3 (by omega)
      rw[Ag,Ag,Ag,Ag,Aq hO]
      have hx:(x0.1,x0.2.1,x0.2.2)=x0:=rfl
      rw[hx] at hc
      rw[hc,Ad]
     rw[hnode]
     cases G n vs with
     |inl e=>exact ⟨_,_,rfl⟩
     |inr v=>rfl
    ·rw[if_neg h5]
     obtain ⟨f1,f2⟩:=Gu.1 w1
     rw[AHb (x0:=x0) (f:=op1 k) f1 h4 h5 (by rw[hvl,<-w2];exact f2) (by rw[e1];exact s2) e2 e3 (by omega) (Pv (hn n (by simp[flat]))) (by omega)]
     rfl
theorem AI3 {t:List Ac} {env:List AN} (hv:∀ b∈env,AL b.2=true) (he:env.length<=1000000000):RM (CX env) G0 env []:=by
 refine ⟨fun nm=>?_,he,fun t n vs B _ _=>?_⟩
 ·unfold CX
  cases hf:env.find? (fun b=>decide (b.1=nm)) with
  |none=>rfl
  |some b=>
   obtain ⟨s,s1,s2,s3⟩:=LJ (hv b (List.mem_of_find?_eq_some hf))
   rw[Option.map_some,Option.bind_some,s1,s3]
   rfl
 ·unfold Mb
  have hz:((0:Int),false,([]:qBs),([]:List qBs),([]:List qBs))=zVal:=rfl
  rw[hz,AY (y:=(((t,env,([]:List Interp)):Xe),vs.map encS,n,zVal,(0:Int),(0:Int),())) (e:=.exit 0) (by unfold Gn;simp only;rw[Ax (by simp)]) (by simp)]
  simp only[Ad,AX,Ap]
  rfl
theorem ALW (kids:List (List Ac)) (hl:kids.length<=1000):∀ (m i:Nat) (t:List Ac),i+m=kids.length->t.length+(kids.drop i).flatten.length<=100000->
 Am KB (kids,t,(i:Int),())=some (.exit 0,(kids,t++(kids.drop i).flatten,(kids.length:Int),())):=by
 intro m
 induction m with
 |zero=>
  intro i t hi _
  have e:kids.drop i=[]:=qY7 (by omega)
  rw[e]
  refine AY ?_ (by simp)
  unfold KB
  simp only
  have:i=kids.length:=by omega
  rw[Ax,this]
  simp
 |succ m ih=>
  intro i t hi hb
  have hil:i < kids.length:=by omega
  have hd:=qY6 hil
  have hg:kids.getD i []=kids[i]:=by simp[qZ4,hil]
  rw[hd] at hb ⊢
  simp only[List.flatten_cons,qZ6] at hb
  rw[AZ (y:=(kids,t++kids[i],((i+1:Nat):Int),())) (by
   unfold KB
   simp only
   rw[As,Ak,Ab,Ab,qZ0,hg,Ab (by simp only[Av];omega),Aw]
   rfl)]
  rw[ih (i+1) _ (by omega) (by simp only[qZ6];omega)]
  simp only[List.flatten_cons,qZ1]
theorem Ia {n:Ac} {kids:List (List Ac)} (hl:kids.length<=1000) (hb:kids.flatten.length<=90000):EG n kids=some (((n.1,n.2.1,n.2.2.1,n.2.2.2.1,(kids.length:Int))::kids.flatten,()),()):=by
 unfold EG
 have:=ALW kids hl kids.length 0 [(n.1,n.2.1,n.2.2.1,n.2.2.2.1,(kids.length:Int))] (by omega) (by simp only[List.drop_zero,qY11,List.length_nil];omega)
 rw[show ((0:Nat):Int)=0 from rfl] at this
 rw[this]
 simp only[Ad,AX,Ap,List.drop_zero]
 rfl
theorem Ba.len {VS:List Vr} {ss:List Int} {N d:Nat} {l:List Ac} (h:Ba VS ss N d l):l.length<=N:=by
 obtain ⟨K,hK⟩:=h
 rw[<-hK.flat,BN];exact hK.size
theorem Ba.sub {VS:List Vr} {ss:List Int} {N d:Nat} {l:List Ac} (h:Ba [] ss N d l):Ba VS ss N d l:=by
 obtain ⟨K,hK⟩:=h
 exact ⟨K,hK.flat,hK.wf,hK.srt,hK.nz,hK.sh,hK.size,hK.dep,fun x hx h4=>absurd (hK.vars x hx h4) qY16,hK.noap⟩
theorem Np {o k:Int} (h:1<=o/\o<=20) (h':o≠3/\o≠4/\o≠5/\o≠16/\o≠17):Bq ((o,0,[],[],k):Ac)=true:=by
 unfold Bq
 simp only[nOp,A3,Bo,Bg]
 rw[if_neg (by omega),if_neg (by omega),if_neg (by omega),qZ10 h]
 rfl
theorem EQ {VS:List Vr} {ss:List Int} {N d:Nat} {kids:List (List Ac)} {o s:Int} (hK:Ba VS ss N d kids.flatten) (hl:kids.length=ss.length) (h1000:kids.length<=1000) (hN:N<=50000) (h:1<=o/\o<=20) (h':o≠3/\o≠4/\o≠5/\o≠16/\o≠17)
 (hc:AH o ss.length=true) (hs:AQ ((o,0,[],[],(ss.length:Int)):Ac) (kids.flatten.getD 0 Az).1 ss=s) (hz:s≠0):∃ t,B4 o kids=some ((t,()),())/\Ba VS [s] (N+1) (d+1) t:=by
 refine ⟨(o,0,[],[],(kids.length:Int))::kids.flatten,?_,?_⟩
 ·unfold B4
  rw[Ia h1000 (by have:=hK.len;omega),Ad]
 ·rw[hl]
  exact hK.node (Np h h') hc rfl hs hz (by simp[Bg]) (fun e=>absurd e h'.2.1) h'.2.2.1
theorem AIQ {d:Int} {P:KV} (hP:P.length<=100) (hs:∀ p∈P,(ti p.1).length<=73/\(ti p.2).length<=73):∀ (m i:Nat) (t:List Ac),i+m=P.length->Ba [] [4] (2+3 * i) (2+i) t->
 ∃ t',Am IH (AI d P,([]:List Ac),0,t,(i:Int),())=some (.exit 1,(AI d P,([]:List Ac),0,t',(P.length:Int),()))/\Ba [] [4] (2+3 * P.length) (2+P.length) t':=by
 intro m
 induction m with
 |zero=>
  intro i t hi hg
  have:i=P.length:=by omega
  refine ⟨t,AY ?_ (by simp),by rw[<-this];exact hg⟩
  unfold IH
  simp only
  rw[Ax (by rw[Bj];omega),this]
 |succ m ih=>
  intro i t hi hg
  have hil:i < P.length:=by omega
  have hp:=hs _ (List.getElem_mem hil)
  have hlen:=hg.len
  have hk:=((hg.app ((KJ hp.1).mono (Nat.le_refl _) (show 1<=2+i by omega))).app ((KJ hp.2).mono (Nat.le_refl _) (show 1<=2+i by omega)))
  have hfl:[t,[((3:Int),(2:Int),([]:qBs),ti P[i].1,(0:Int))],[((3:Int),(2:Int),([]:qBs),ti P[i].2,(0:Int))]].flatten=t++[((3:Int),(2:Int),([]:qBs),ti P[i].1,(0:Int))]++[((3:Int),(2:Int),([]:qBs),ti P[i].2,(0:Int))]:=by simp
  have hj:=Ia (n:=((19:Int),(0:Int),([]:qBs),([]:qBs),(0:Int))) (kids:=[t,[((3:Int),(2:Int),([]:qBs),ti P[i].1,(0:Int))],[((3:Int),(2:Int),([]:qBs),ti P[i].2,(0:Int))]]) (by simp) (by simp;omega)
  rw[hfl] at hj
  have hn:=hk.node (n:=((19:Int),(0:Int),([]:qBs),([]:qBs),(3:Int))) (s:=4) (Np (by omega) (by omega)) rfl rfl (by simp[AQ,nOp]) (by omega) (by simp[Bg]) (fun e=>by simp[nOp] at e) (by simp[nOp])
  obtain ⟨t',h1,h2⟩:=ih (i+1) _ (by omega) (hn.mono (show 2+3 * i+1+1+1<=2+3 * (i+1) by omega) (show 2+i+1<=2+(i+1) by omega))
  refine ⟨t',?_,h2⟩
  rw[AZ (y:=(AI d P,([]:List Ac),0,_,((i+1:Nat):Int),())) (by
   unfold IH
   simp only
   rw[As (by rw[Bj];omega),Ax,Ak,Ab,Ab (by rw[Bj];omega),qZ0,Er hil,FG hil]
   unfold CD
   rw[Ad,Ak,Ab,Ab (by rw[B_];omega),Ad]
   simp only
   rw[hj,Ad,Aw]
   rfl)]
  exact h1
def Q7 (v:SV):Prop:=Cw v/\match v with
 |.b _=>True
 |.z n=>(ti n).length<=73
 |.q r=>(An r).length<=73
 |.a d P=>(ti d).length<=73/\(∀ p∈P,(ti p.1).length<=73/\(ti p.2).length<=73)/\P.length<=100
def De:SV->Nat
 |.a _ P=>P.length
 |_=>0
theorem Xb {v:SV} (h:Q7 v):Short 73 (encS v):=by
 obtain ⟨h1,h2⟩:=h
 cases v with
 |b x=>exact ⟨by simp[encS],fun s hs=>by simp[encS] at hs,fun s hs=>by simp[encS] at hs,by simp[encS]⟩
 |z n=>exact ⟨h2,fun s hs=>by simp[encS] at hs,fun s hs=>by simp[encS] at hs,by simp[encS]⟩
 |q r=>exact ⟨h2,fun s hs=>by simp[encS] at hs,fun s hs=>by simp[encS] at hs,by simp[encS]⟩
 |a d P=>
  obtain ⟨a1,a2,a3⟩:=h2
  exact (Sm.short (N:=73) ⟨a1,a2,by omega⟩)
theorem AKa {v:SV} (h:Q7 v):∃ t,GV (encS v)=some ((t,0,()),())/\Ba [] [Ay v] (2+3 * De v) (2+De v) t:=by
 have hsh:=Xb h
 obtain ⟨h1,h2⟩:=h
 have hval:=Hg (N:=73) (by omega) hsh
 rw[Ru h1] at hval
 unfold GV
 rw[hval,Ad]
 simp only[qY2,AA]
 cases v with
 |b x=>
  cases x
  ·exact ⟨_,rfl,Um.mono (by simp[De]) (by simp[De])⟩
  ·exact ⟨_,rfl,Tt.mono (by simp[De]) (by simp[De])⟩
 |z n=>exact ⟨_,rfl,(KJ h2).mono (by simp[De]) (by simp[De])⟩
 |q r=>exact ⟨_,rfl,(Vk h2).mono (by simp[De]) (by simp[De])⟩
 |a d P=>
  obtain ⟨a1,a2,a3⟩:=h2
  have hk:=(KJ (VS:=[]) a1).node (n:=((20:Int),(0:Int),([]:qBs),([]:qBs),(1:Int))) (s:=4) (Np (by omega) (by omega)) rfl rfl (by simp[AQ,nOp]) (by omega) (by simp[Bg]) (fun e=>by simp[nOp] at e) (by simp[nOp])
  obtain ⟨t',e1,e2⟩:=AIQ (d:=d) a3 a2 P.length 0 _ (by omega) (hk.mono (by omega) (by omega))
  obtain ⟨F,hF⟩:=e2
  have hvt:=AGU ⟨fun v h=>absurd h qY16,fun v h=>absurd h qY16⟩ hF (by omega) (by omega)
  obtain ⟨b,b1,b2⟩:=Y6 (t:=t') fun n hn=>by have:=hF.sh n hn;omega
  have hb:b=true:=b2.2 ⟨F,hvt⟩
  have e:encS (.a d P)=AI d P:=rfl
  rw[e]
  simp only
  rw[Ag,Ag,Ag]
  unfold CD
  simp only[Ad]
  have hj:=Ia (n:=((20:Int),(0:Int),([]:qBs),([]:qBs),(0:Int))) (kids:=[[((3:Int),(2:Int),([]:qBs),ti d,(0:Int))]]) (by simp) (by simp)
  rw[hj,Ad]
  rw[show ((0:Nat):Int)=0 from rfl] at e1
  have e1':Am IH (AI d P,([]:List Ac),0,(((20:Int),(0:Int),([]:qBs),([]:qBs),(([[((3:Int),(2:Int),([]:qBs),ti d,(0:Int))]].length:Nat):Int)):Ac)::[[((3:Int),(2:Int),([]:qBs),ti d,(0:Int))]].flatten,0,())=some (.exit 1,(AI d P,([]:List Ac),0,t',(P.length:Int),())):=e1
  rw[e1']
  simp only[Ad,AX,Ap]
  rw[b1,Ad,hb]
  exact ⟨t',rfl,⟨F,hF⟩⟩
theorem Xk {c:List Int×Int} (hc:CI c) {s:Int} (hs:1<=s/\s<=4):∃ v c',CS c s=some ((encS v,()),(c',()))/\CI c'/\Ay v=s/\Q7 v/\De v<=1:=by
 have hf:∀ r:Int,-10<=r/\r<=10->DG r=some ((ti r,()),())/\(ti r).length<=73:=fun r h=>by
  refine ⟨H8 ⟨by omega,by omega⟩,?_⟩
  have:=BH (r:Rat)
  have:=Ho (n:=r) (by omega)
  unfold ti;omega
 unfold CS
 by_cases h1:s=1
 ·obtain ⟨r,c',n1,n2,n3,n4⟩:=Bw hc (n:=2) (by omega)
  rw[Aq h1,n1,Ad,h1]
  exact ⟨.b (r==1),c',rfl,n2,rfl,⟨trivial,trivial⟩,by simp[De]⟩
 rw[Ag h1]
 by_cases h4:s=4
 ·obtain ⟨r1,c1,a1,a2,a3,a4⟩:=Bw hc (n:=3) (by omega)
  obtain ⟨r2,c2,b1,b2,b3,b4⟩:=Bw a2 (n:=3) (by omega)
  obtain ⟨r3,c3,d1,d2,d3,d4⟩:=Bw b2 (n:=3) (by omega)
  rw[Aq h4,a1,Ad,(hf r1 (by omega)).1,Ad,b1,Ad,(hf r2 (by omega)).1,Ad,d1,Ad,(hf r3 (by omega)).1,Ad,h4]
  have hst:=O9 (N:=73) (by omega) (d:=r1) (i:=r2) (n:=r3) (MZ r1) (QJ (hf r1 (by omega)).2) (hf r2 (by omega)).2 (hf r3 (by omega)).2
  have e:(AI r1 []:Ae)=((4:Int),false,ti r1,([]:List qBs),([]:List qBs)):=rfl
  rw[e] at hst
  simp only
  rw[hst,Ad]
  have hlen:=QI (d:=r1) (i:=r2) (n:=r3) (P:=[]) List.Pairwise.nil
  have hsm:=X0 (N:=73) (d:=r1) (i:=r2) (n:=r3) (P:=[]) List.Pairwise.nil (QJ (hf r1 (by omega)).2) (hf r2 (by omega)).2 (hf r3 (by omega)).2 (by simp)
  refine ⟨.a r1 (Dn r1 [] r2 r3),c3,rfl,d2,rfl,⟨RV (MZ r1) r2 r3,hsm.num,hsm.els,?_⟩,?_⟩
  ·simp at hlen;omega
  ·simpa [De] using hlen
 ·rw[Ag h4]
  obtain ⟨r,c',n1,n2,n3,n4⟩:=Bw hc (n:=6) (by omega)
  rw[n1,Ad]
  simp only
  rw[Aw,(hf (r - 2) (by omega)).1,Ad]
  by_cases h2:s=2
  ·rw[h2]
   exact ⟨.z (r - 2),c',rfl,n2,rfl,⟨trivial,(hf (r - 2) (by omega)).2⟩,by simp[De]⟩
  ·have h3:s=3:=by omega
   rw[h3]
   exact ⟨.q ((r - 2:Int):Rat),c',rfl,n2,rfl,⟨trivial,(hf (r - 2) (by omega)).2⟩,by simp[De]⟩
def CJ (VS:List Vr) (c:List Int×Int) (s:Int) (N d:Nat) (r:Option (((List Ac)×Unit)×(Af×Unit))):Prop:=∃ t c',r=some ((t,()),(c',()))/\CI c'/\Ba VS [s] N d t
theorem Yh {VS:List Vr} {c:List Int×Int} (hc:CI c) {s:Int} (hs:1<=s/\s<=4):CJ VS c s 5 3 ((CS c s).bind fun r2=>(GV r2.1.1).bind fun r3=>some ((r3.1.1,()),r2.2.1,())):=by
 obtain ⟨v,c',h1,h2,h3,h4,h5⟩:=Xk hc hs
 obtain ⟨t,t1,t2⟩:=AKa h4
 rw[h1,Ad,t1,Ad]
 rw[h3] at t2
 exact ⟨t,c',rfl,h2,(t2.mono (by omega) (by omega)).sub⟩
theorem AGY {c:List Int×Int} {VS:List Vr} {s:Int} (hl:VS.length<=1000):∀ (m i:Nat) (l:List Vr),i+m=VS.length->l.length<=i->
 Am JO (c,s,VS,l,(i:Int),())=some (.exit 0,(c,s,VS,l++(VS.drop i).filter (fun v=>decide (v.2=s)),(VS.length:Int),())):=by
 intro m
 induction m with
 |zero=>
  intro i l hi _
  have e:VS.drop i=[]:=qY7 (by omega)
  rw[e]
  refine AY ?_ (by simp)
  unfold JO
  simp only
  have:i=VS.length:=by omega
  rw[Ax,this]
  simp
 |succ m ih=>
  intro i l hi hb
  have hil:i < VS.length:=by omega
  have hd:=qY6 hil
  have hg:VS.getD i Cb=VS[i]:=by simp[qZ4,hil]
  rw[hd]
  generalize VS[i]=v at hg hd
  by_cases h:v.2=s
  ·rw[AZ (y:=(c,s,VS,l++[v],((i+1:Nat):Int),())) (by
    unfold JO
    simp only
    rw[As,Ak,Ab,Ab,qZ0,hg,Aq h,Ak,Ab,Ab,Ab (by simp[Av];omega),Aw]
    rfl)]
   rw[ih (i+1) _ (by omega) (by simp;omega),List.filter_cons,if_pos (qZ10 h)]
   simp
  ·rw[AZ (y:=(c,s,VS,l,((i+1:Nat):Int),())) (by
    unfold JO
    simp only
    rw[As,Ak,Ab,Ab,qZ0,hg,Ag h,Aw]
    rfl)]
   rw[ih (i+1) _ (by omega) (by omega),List.filter_cons,if_neg (fun e=>h (of_decide_eq_true e))]
theorem MJ {VS:List Vr} (hV:VSok VS) (hl:VS.length<=1000) {c:List Int×Int} (hc:CI c) {s:Int} (hs:1<=s/\s<=4):CJ VS c s 5 3 (DS c s VS):=by
 unfold DS
 have key:=AGY (c:=c) (s:=s) hl VS.length 0 [] (by omega) (by simp)
 rw[show ((0:Nat):Int)=0 from rfl] at key
 rw[key]
 simp only[Ad,AX,Ap,qY15,List.drop_zero]
 have hmem:∀ v∈VS.filter (fun v=>decide (v.2=s)),v∈VS/\v.2=s:=fun v hv=>by simpa using hv
 have hfl:(VS.filter (fun v=>decide (v.2=s))).length<=VS.length:=List.length_filter_le _ _
 generalize VS.filter (fun v=>decide (v.2=s))=L at hmem hfl
 by_cases h0:L.length=0
 ·rw[Aq]
  exact Yh hc hs
 ·rw[Ag]
  obtain ⟨r,c',n1,n2,n3,n4⟩:=Bw hc (n:=(L.length:Int)) (by omega)
  obtain ⟨k,rfl⟩:∃ k:Nat,r=k:=⟨r.toNat,by omega⟩
  have hk:k < L.length:=by omega
  have hg:L.getD k Cb=L[k]:=by simp[qZ4,hk]
  rw[n1,Ad,Ak,Ab,Ab]
  simp only[qZ0]
  rw[Ab hk,hg]
  obtain ⟨m1,m2⟩:=hmem _ (List.getElem_mem hk)
  have hm:(L[k].1,s)∈VS:=by rw[<-m2];exact m1
  exact ⟨_,c',rfl,n2,(AGz hV hm).mono (by omega) (by omega)⟩
abbrev GS:=Af->Int->Int->List Vr->Option (((List Ac)×Unit)×(Af×Unit))
abbrev Lo:=Af->Int->List Vr->Option (((List Ac)×Unit)×(Af×Unit))
def TOk (VS:List Vr) (T:GS) (d N D:Nat):Prop:=∀ c s,CI c->1<=s/\s<=4->CJ VS c s N D (T c s (d:Int) VS)
def Rd (VS:List Vr) (T:GS) (d N D:Nat):Prop:=∀ c s,CI c->s=2\/s=3->CJ VS c s N D (T c s (d:Int) VS)
def Ep (VS:List Vr) (F:Lo) (d N D:Nat):Prop:=∀ c,CI c->CJ VS c 1 N D (F c (d:Int) VS)
theorem CJ.mono {VS:List Vr} {c:List Int×Int} {s:Int} {N d M e:Nat} {r:Option (((List Ac)×Unit)×(Af×Unit))} (h:CJ VS c s N d r) (hN:N<=M) (hd:d<=e):CJ VS c s M e r:=by
 obtain ⟨t,c',h1,h2,h3⟩:=h
 exact ⟨t,c',h1,h2,h3.mono hN hd⟩
theorem CJ.eta {VS:List Vr} {c:List Int×Int} {s:Int} {N d:Nat} {r:Option (((List Ac)×Unit)×(Af×Unit))} (h:CJ VS c s N d r):CJ VS c s N d (r.bind fun r2=>some ((r2.1.1,()),r2.2.1,())):=by
 obtain ⟨t,c',h1,h2,h3⟩:=h
 rw[h1]
 exact ⟨t,c',rfl,h2,h3⟩
section
variable {VS:List Vr} (T:GS) (F:Lo) (I:GS) (Ar:GS) (At:Lo)
theorem BV (a:List Ac):[a].flatten=a:=by simp
theorem Ce (a b:List Ac):[a,b].flatten=a++b:=by simp
theorem VB (a b c:List Ac):[a,b,c].flatten=a++b++c:=by simp
theorem UU {c:List Int×Int} (hc:CI c) {s:Int} (hs:1<=s/\s<=4) (hV:VSok VS) (hl:VS.length<=1000):CJ VS c s 5 3 ((AW c 3).bind fun r1=>
 cond (r1.1.1==(0:Int))
  ((CS r1.2.1 s).bind fun r2=>
  (GV r2.1.1).bind fun r3=>
  some ((r3.1.1,()),r2.2.1,()))
  ((DS r1.2.1 s VS).bind fun r4=>
  some ((r4.1.1,()),r4.2.1,()))):=by
 obtain ⟨r,c',n1,n2,n3,n4⟩:=Bw hc (n:=3) (by omega)
 rw[n1,Ad]
 by_cases h:r=0
 ·rw[Aq h];exact Yh n2 hs
 ·rw[Ag h];exact (MJ hV hl n2 hs).eta
theorem T0 (hV:VSok VS) (hl:VS.length<=1000):TOk VS (Iw T F I Ar At) 0 5 3:=by
 intro c s hc hs
 unfold Iw
 rw[As]
 exact UU hc hs hV hl
theorem TS (hV:VSok VS) (hl:VS.length<=1000) {d N D:Nat} (hN:N<=10000) (hT:TOk VS T d N D):Ep VS (Mv T F I Ar At) d (max 5 (1+2 * N)) (max 3 (D+1)):=by
 intro c hc
 unfold Mv
 obtain ⟨r,c1,n1,n2,n3,n4⟩:=Bw hc (n:=5) (by omega)
 rw[n1,Ad,Ak,Ab (by simpa using n3),Ab (by simp;omega)]
 have hr:r=0\/r=1\/r=2\/r=3\/r=4:=by omega
 have hg:∃ s:Int,([2,2,3,4,1]:List Int).getD r.toNat 0=s/\1<=s/\s<=4:=by
  rcases hr with rfl | rfl | rfl | rfl | rfl
  ·exact ⟨2,rfl,by omega,by omega⟩
  ·exact ⟨2,rfl,by omega,by omega⟩
  ·exact ⟨3,rfl,by omega,by omega⟩
  ·exact ⟨4,rfl,by omega,by omega⟩
  ·exact ⟨1,rfl,by omega,by omega⟩
 obtain ⟨s,hgs,hs⟩:=hg
 simp only
 rw[hgs]
 by_cases h1:s=1
 ·rw[Aq h1]
  obtain ⟨r2,c2,m1,m2,m3,m4⟩:=Bw n2 (n:=3) (by omega)
  rw[m1,Ad]
  by_cases h0:r2=0
  ·rw[Aq h0]
   obtain ⟨r3,c3,k1,k2,k3,k4⟩:=Bw m2 (n:=2) (by omega)
   simp only
   rw[k1,Ad]
   simp only
   unfold OF
   cases (r3==1)
   ·exact ⟨_,c3,rfl,k2,Um.mono (by omega) (by omega)⟩
   ·exact ⟨_,c3,rfl,k2,Tt.mono (by omega) (by omega)⟩
  ·rw[Ag h0,h1]
   exact ((MJ hV hl m2 (by omega)).eta).mono (by omega) (by omega)
 rw[Ag h1]
 by_cases h4:s=4
 ·rw[Bm h4]
  obtain ⟨t1,c2,a1,a2,a3⟩:=hT _ s n2 hs
  obtain ⟨t2,c3,b1,b2,b3⟩:=hT _ s a2 hs
  rw[a1,Ad,b1,Ad]
  obtain ⟨t,o1,o2⟩:=EQ (o:=11) (s:=1) (kids:=[t1,t2]) (by rw[Ce];exact a3.app b3) rfl (by simp) (by omega) (by omega) (by omega) rfl (by simp[AQ,nOp]) (by omega)
  rw[o1,Ad]
  exact ⟨t,c3,rfl,b2,o2.mono (by omega) (by omega)⟩
 ·rw[Bu h4]
  obtain ⟨r2,c2,m1,m2,m3,m4⟩:=Bw n2 (n:=3) (by omega)
  obtain ⟨t1,c3,a1,a2,a3⟩:=hT _ s m2 hs
  obtain ⟨t2,c4,b1,b2,b3⟩:=hT _ s a2 hs
  rw[m1,Ad,a1,Ad,b1,Ad]
  simp only
  rw[Aw]
  have hs':s=2\/s=3:=by omega
  have hsm:AQ (((11:Int)+r2,0,[],[],(([s]++[s]:List Int).length:Int)):Ac) ((t1++t2).getD 0 Az).1 ([s]++[s])=1:=by
   have:r2=0\/r2=1\/r2=2:=by omega
   rcases this with rfl | rfl | rfl
   ·simp[AQ,nOp]
   ·simp[AQ,nOp,hs']
   ·simp[AQ,nOp,hs']
  have hcc:AH ((11:Int)+r2) ([s]++[s]:List Int).length=true:=by
   have:r2=0\/r2=1\/r2=2:=by omega
   rcases this with rfl | rfl | rfl<;>rfl
  obtain ⟨t,o1,o2⟩:=EQ (o:=(11:Int)+r2) (s:=1) (kids:=[t1,t2]) (ss:=[s]++[s]) (by rw[Ce];exact a3.app b3) rfl (by simp) (by omega) (by omega) (by omega) hcc (by rw[Ce];exact hsm) (by omega)
  rw[o1,Ad]
  exact ⟨t,c4,rfl,b2,o2.mono (by omega) (by omega)⟩
theorem ZZ {d N D:Nat} (hd:d<=1000) (hN:N<=10000) (hT:TOk VS T d N D) (hF:Ep VS F d N D):TOk VS (MA T F I Ar At) (d+1) (1+3 * N) (D+1):=by
 intro c s hc hs
 unfold MA
 have hw:qI (((d+1:Nat):Int) - 1)=(d:Int):=by rw[Aw];omega
 obtain ⟨t1,c1,a1,a2,a3⟩:=hF _ hc
 obtain ⟨t2,c2,b1,b2,b3⟩:=hT _ s a2 hs
 obtain ⟨t3,c3,e1,e2,e3⟩:=hT _ s b2 hs
 rw[hw,a1,Ad,b1,Ad,e1,Ad]
 obtain ⟨t,o1,o2⟩:=EQ (o:=10) (s:=s) (kids:=[t1,t2,t3]) (ss:=[1]++[s]++[s]) (by rw[VB];exact (a3.app b3).app e3) rfl (by simp) (by omega) (by omega) (by omega) rfl (by simp[AQ,nOp]) (by omega)
 rw[o1,Ad]
 exact ⟨t,c3,rfl,e2,o2.mono (by omega) (by omega)⟩
theorem Sr (n:Nat) (s:Int):List.replicate n s++[s]=List.replicate (n+1) s:=by rw[List.replicate_succ']
theorem ACR {d N D:Nat} (hd:d<=1000) (hN:N<=10000) (hT:TOk VS T d N D) {s:Int} (hs:1<=s/\s<=4):∀ (m k:Nat) (c:List Int×Int) (l:List (List Ac)),CI c->k+m<=5->l.length=k->Ba VS (List.replicate k s) (k * N) D l.flatten->
 ∃ c' l',Am (K7 T F I Ar At) (c,s,((d+1:Nat):Int),VS,l,(m:Int),())=some (.exit 1,(c',s,((d+1:Nat):Int),VS,l',0,()))/\CI c'/\l'.length=k+m/\Ba VS (List.replicate (k+m) s) ((k+m) * N) D l'.flatten:=by
 have hw:qI (((d+1:Nat):Int) - 1)=(d:Int):=by rw[Aw];omega
 intro m
 induction m with
 |zero=>
  intro k c l hc _ hlk hg
  exact ⟨c,l,AY (by unfold K7;simp only;rw[Ax];rfl) (by simp),hc,hlk,hg⟩
 |succ m ih=>
  intro k c l hc hb hlk hg
  obtain ⟨t1,c1,a1,a2,a3⟩:=hT _ s hc hs
  have hg':Ba VS (List.replicate (k+1) s) ((k+1) * N) D (l++[t1]).flatten:=by
   have:=hg.app a3
   rw[Sr] at this
   rw[List.flatten_append,BV,Nat.add_mul,Nat.one_mul]
   exact this
  obtain ⟨c',l',e1,e2,e3,e4⟩:=ih (k+1) c1 (l++[t1]) a2 (by omega) (by simp[hlk]) hg'
  refine ⟨c',l',?_,e2,by omega,?_⟩
  ·rw[AZ (y:=(c1,s,((d+1:Nat):Int),VS,l++[t1],(m:Int),())) (by
    unfold K7
    simp only
    rw[As,hw,a1,Ad,Ab (by simp[Av];omega),Aw]
    have e:((m+1:Nat):Int) - 1=(m:Int):=by omega
    rw[e])]
   exact e1
  ·have e:k+(m+1)=k+1+m:=by omega
   rw[e];exact e4
theorem AIW {d N D:Nat} (hd:d<=1000) (hN:N<=10000) (hF:Ep VS F d N D):∀ (m k:Nat) (c:List Int×Int) (l:List (List Ac)),CI c->k+m<=5->l.length=k->Ba VS (List.replicate k 1) (k * N) D l.flatten->
 ∃ c' l',Am (F6 T F I Ar At) (c,((d+1:Nat):Int),VS,l,(m:Int),())=some (.exit 1,(c',((d+1:Nat):Int),VS,l',0,()))/\CI c'/\l'.length=k+m/\Ba VS (List.replicate (k+m) 1) ((k+m) * N) D l'.flatten:=by
 have hw:qI (((d+1:Nat):Int) - 1)=(d:Int):=by rw[Aw];omega
 intro m
 induction m with
 |zero=>
  intro k c l hc _ hlk hg
  exact ⟨c,l,AY (by unfold F6;simp only;rw[Ax];rfl) (by simp),hc,hlk,hg⟩
 |succ m ih=>
  intro k c l hc hb hlk hg
  obtain ⟨t1,c1,a1,a2,a3⟩:=hF _ hc
  have hg':Ba VS (List.replicate (k+1) 1) ((k+1) * N) D (l++[t1]).flatten:=by
   have:=hg.app a3
   rw[Sr] at this
   rw[List.flatten_append,BV,Nat.add_mul,Nat.one_mul]
   exact this
  obtain ⟨c',l',e1,e2,e3,e4⟩:=ih (k+1) c1 (l++[t1]) a2 (by omega) (by simp[hlk]) hg'
  refine ⟨c',l',?_,e2,by omega,?_⟩
  ·rw[AZ (y:=(c1,((d+1:Nat):Int),VS,l++[t1],(m:Int),())) (by
    unfold F6
    simp only
    rw[As,hw,a1,Ad,Ab (by simp[Av];omega),Aw]
    have e:((m+1:Nat):Int) - 1=(m:Int):=by omega
    rw[e])]
   exact e1
  ·have e:k+(m+1)=k+1+m:=by omega
   rw[e];exact e4
theorem Yp {c:List Int×Int} (hc:CI c) {s:Int} (hs:s=2\/s=3):∃ a c',EB c s=some ((a,()),(c',()))/\CI c'/\CD s a=some (([((3:Int),s,([]:qBs),a,(0:Int))],()),())/\Ba VS [s] 1 1 [((3:Int),s,([]:qBs),a,(0:Int))]:=by
 unfold EB
 rcases hs with rfl | rfl
 ·obtain ⟨z,c',h1,h2,h3⟩:=It hc
  rw[Aq rfl,h1,Ad]
  exact ⟨ti z,c',rfl,h2,rfl,KJ (by omega)⟩
 ·obtain ⟨q,c',h1,h2,h3⟩:=T1 hc
  have:=BH q
  rw[Ag,h1,Ad]
  exact ⟨An q,c',rfl,h2,rfl,Vk (by omega)⟩
end
end Go.AM.Num
end
