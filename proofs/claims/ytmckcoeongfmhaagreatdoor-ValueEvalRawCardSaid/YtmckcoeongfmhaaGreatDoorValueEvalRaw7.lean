/- Law ValueEvalRaw of the values: a machine of plain values, what the program's functions compute in it, and what that is. No condition beyond what the statement says. -/
import Derived.Test.YtmckcoeongfmhaaGreatDoorValueEvalRaw6
set_option linter.unusedSimpArgs false
set_option linter.unusedVariables false
section
namespace Go.AM.Num
theorem qQU {P:UInt8->Prop} (h:∀ n:Fin 256,P (UInt8.ofNat n.val)) (c:UInt8):P c:=by
 have:=h ⟨c.toNat,c.toNat_lt⟩
 simpa using this
theorem qRf (c:UInt8):qQY (c.toNat:Int)=some ((letterB c,()),()):=by
 refine qQU (P:=fun c=>qQY (c.toNat:Int)=some ((letterB c,()),())) ?_ c
 decide +kernel
theorem qMaw (c:UInt8):decide ((c.toNat:Int)>=48)=decide (48<=c):=by
 refine qQU (P:=fun c=>decide ((c.toNat:Int)>=48)=decide (48<=c)) ?_ c
 decide +kernel
theorem qAaw (c:UInt8):decide ((c.toNat:Int)<=57)=decide (c<=57):=by
 refine qQU (P:=fun c=>decide ((c.toNat:Int)<=57)=decide (c<=57)) ?_ c
 decide +kernel
theorem qBau (c:UInt8):((c.toNat:Int) !=46)=!(c==46):=by
 refine qQU (P:=fun c=>((c.toNat:Int) !=46)=!(c==46)) ?_ c
 decide +kernel
theorem qYat (c:UInt8):((c.toNat:Int) !=64)=!(c==64):=by
 refine qQU (P:=fun c=>((c.toNat:Int) !=64)=!(c==64)) ?_ c
 decide +kernel
theorem qHM {α:Type} (l:List α) (d:α) (p:α->Bool):(List.range l.length).all (fun k=>p (l.getD k d))=l.all p:=by
 rw[Bool.eq_iff_iff,qY3,qY3]
 constructor
 ·intro h x hx
  obtain ⟨i,hi⟩:=List.getElem?_of_mem hx
  have:=h i (by simp only[List.mem_range];exact (List.getElem?_eq_some_iff.1 hi).1)
  simpa [qZ4,hi] using this
 ·intro h k hk
  simp only[List.mem_range] at hk
  simpa [qZ4,hk] using h _ (List.getElem_mem hk)
theorem qVz (s:qBs) (l:List qBs):l.foldr (fun w k=>cond (s==w) (some ((true,()),())) k) (some ((false,()),()))=some ((decide (s∈l),()),()):=by
 induction l with
 |nil=>simp
 |cons w l ih=>
  simp only[List.foldr_cons,ih,qY12]
  by_cases h:s=w
  ·rw[show (s==w)=true by simpa using h];simp[h]
  ·rw[show (s==w)=false by simpa using h];simp[h]
theorem qVab (s:qBs):qBag s=some ((decide (s∈qRk),()),()):=by
 have:=qVz s qRk
 exact this
theorem qUad (s:qBs):(s==[])=decide (s=[]):=by
 cases s<;>simp
theorem qCs (s:qBs):qCa s=some ((qVi s,()),()):=by
 unfold qCa
 by_cases h0:s=[]
 ·subst h0;decide
 ·rw[show (s==([]:qBs))=false by simpa using h0,qVA]
  have hl:0 < s.length:=List.length_pos_iff.2 h0
  unfold qVi
  by_cases h1:s.length<=40
  ·rw[qJA (by omega),qZ10 h1,qEA,qBA (by omega),qBA (by omega),qRf,qAA,qVab,qAA]
   have e:(0:Int).toNat=0:=rfl
   rw[e]
   simp only
   cases letterB (s.getD 0 0) with
   |false=>rfl
   |true=>
    simp only[qY2,qVA,Bool.true_and]
    cases decide (s∈qRk) with
    |true=>rfl
    |false=>
     rw[qVA]
     have key:=qOG (step:=qEQ) (fun k=>(s,false,(s.length:Int),(k:Int),())) (fun k=>(s,false,(s.length:Int),(k:Int),())) s.length (E:=.exit 0) (B:=.ret) (by simp) (by simp) (fun k=>qAn (s.getD k 0)) (fun k hk=>by
      unfold qEQ
      simp only
      rw[qGA (by omega),qEA,qBA (by omega),qBA (by omega),qZ0,qRf,qAA,qMaw,qAaw,qBau,qYat,w64 (x:=(k:Int)+1) (by omega)]
      unfold qAn
      generalize letterB (s.getD k 0)=a
      generalize decide (48<=s.getD k 0)=b
      generalize decide (s.getD k 0<=57)=c
      generalize (s.getD k 0==46)=d
      generalize (s.getD k 0==64)=e
      cases a<;>cases b<;>cases c<;>cases d<;>cases e<;>rfl) (by
      unfold qEQ
      simp only
      rw[qJA (by omega)])
     rw[qHM] at key
     rcases key with ⟨k1,k2⟩ | ⟨k1,j,k2⟩
     ·rw[show ((0:Nat):Int)=0 from rfl] at k2
      rw[k2,k1]
      simp only[qAA,qHB,qOA,qY1,Bool.true_and]
     ·rw[show ((0:Nat):Int)=0 from rfl] at k2
      rw[k2,k1]
      simp only[qAA,qQC,qNC,qOA,qVA,Bool.and_false]
  ·rw[qGA (by omega),qZ9 h1]
   rfl
theorem qUh (s:Int):qNZ s=some ((decide (1<=s/\s<=4),()),()):=by
 unfold qNZ
 by_cases h:s>=1
 ·rw[qGA h]
  have:decide (s<=4)=decide (1<=s/\s<=4):=by rw[decide_eq_decide];omega
  rw[this]
 ·rw[qJA h,qZ9 (by omega)]
theorem qLm {s:Int} {a:qBs} (h:a.length<=1000000):qOW s a=some (((decide (s=2)&&isI a)||(decide (s=3)&&(rd a).isSome),()),()):=by
 unfold qOW
 rw[qXS (by omega),qFm (by omega)]
 simp only[qAA]
 by_cases h2:s=2
 ·subst h2
  cases isI a<;>rfl
 ·rw[qDA h2,qZ9 h2,Bool.false_and,Bool.false_or]
  by_cases h3:s=3
  ·subst h3;rfl
  ·rw[qDA h3,qZ9 h3,Bool.false_and]
theorem qHu {n:Nod} (h:(qQT n).length<=1000000):qAf n=some ((qRC n,()),()):=by
 obtain ⟨o,s,nm,num,kd⟩:=n
 simp only[qQT] at h
 unfold qAf qRC
 simp only[nOp,qGG,qCP,qQT]
 rw[qLm h,qUh,qCs,qXS (by omega),qXl (by omega)]
 simp only[qAA,qUad]
 by_cases e3:o=3
 ·rw[qFA e3,if_pos e3];cases decide (nm=[])<;>rfl
 ·rw[qDA e3,if_neg e3]
  by_cases e4:o=4
  ·rw[qFA e4,if_pos (.inl e4)];cases decide (1<=s/\s<=4)<;>cases qVi nm<;>rfl
  ·rw[qDA e4]
   by_cases e5:o=5
   ·rw[qFA e5,if_pos (.inr e5)];cases decide (1<=s/\s<=4)<;>cases qVi nm<;>rfl
   ·rw[qDA e5,if_neg (by omega)]
    by_cases e6:o=16
    ·rw[qFA e6,if_pos (.inl e6)]
     by_cases z:s=0
     ·rw[qFA z,qZ10 z];cases decide (nm=[])<;>cases isI num<;>rfl
     ·rw[qDA z,qZ9 z];rfl
    ·rw[qDA e6]
     by_cases e7:o=17
     ·rw[qFA e7,if_pos (.inr e7)]
      by_cases z:s=0
      ·rw[qFA z,qZ10 z];cases decide (nm=[])<;>cases isI num<;>rfl
      ·rw[qDA z,qZ9 z];rfl
     ·rw[qDA e7,if_neg (by omega)]
      by_cases g1:o>=1
      ·rw[qGA g1]
       by_cases g2:o<=20
       ·rw[qGA g2,qZ10 (show 1<=o/\o<=20 from ⟨g1,g2⟩)]
        by_cases z:s=0
        ·rw[qFA z,qZ10 z];cases decide (nm=[])<;>rfl
        ·rw[qDA z,qZ9 z];rfl
       ·rw[qJA g2,qZ9 (by omega)];rfl
      ·rw[qJA g1,qZ9 (by omega)];rfl
theorem qHab {o k:Int} (hk:0<=k):qHg o k=some ((qXA o k,()),()):=by
 by_cases h1:o=1;· subst h1;rfl
 by_cases h2:o=2;· subst h2;rfl
 by_cases h3:o=3;· subst h3;rfl
 by_cases h4:o=4;· subst h4;rfl
 by_cases h5:o=5
 ·subst h5
  have e:qXA 5 k=decide (1<=k/\k<=40):=rfl
  rw[e]
  unfold qHg
  rw[qDA (by decide),qDA (by decide),qDA (by decide),qDA (by decide),qFA rfl]
  by_cases g:k>=1
  ·rw[qGA g]
   have:decide (k<=40)=decide (1<=k/\k<=40):=by rw[decide_eq_decide];omega
   rw[this]
  ·rw[qJA g,qZ9 (by omega)]
 by_cases h6:o=6;· subst h6;rfl
 by_cases h16:o=16;· subst h16;rfl
 by_cases h17:o=17;· subst h17;rfl
 by_cases h20:o=20;· subst h20;rfl
 by_cases h7:o=7
 ·subst h7
  have e:qXA 7 k=decide (0<=k):=rfl
  rw[e,qZ10 hk];rfl
 by_cases h8:o=8
 ·subst h8
  have e:qXA 8 k=decide (0<=k):=rfl
  rw[e,qZ10 hk];rfl
 by_cases h14:o=14;· subst h14;rfl
 by_cases h10:o=10;· subst h10;rfl
 by_cases h19:o=19;· subst h19;rfl
 unfold qHg qXA
 rw[qDA h1,qDA h2,qDA h3,qDA h4,qDA h5,qDA h6,qDA h16,qDA h17,qDA h20,qDA h7,qDA h8,qDA h14,qDA h10,qDA h19,
  if_neg (by omega),if_neg h5,if_neg (by omega),if_neg (by omega),if_neg h14,if_neg (by omega)]
 rfl
theorem qYac (b:Bool) (s:Int):qMH b s=some ((if b=true then s else 0,()),()):=by cases b<;>rfl
theorem qEd (s:Int):qXP s=some ((decide (s=2\/s=3),()),()):=by
 unfold qXP
 by_cases h:s=2
 ·rw[qFA h,qZ10 (.inl h)]
 ·rw[qDA h]
  have:(s==3)=decide (s=2\/s=3):=by
   have e:(s==3)=decide (s=3):=rfl
   rw[e,decide_eq_decide];omega
  rw[this]
theorem qHw {ss:List Int} {s:Int} (hl:ss.length<=1000000000):qVa ss s=some ((decide (∀ x∈ss,x=s),()),()):=by
 have key:=qOG (step:=qOB) (fun k=>(ss,some s,(0:Int),(ss.length:Int),(k:Int),())) (fun k=>(ss,some s,(k:Int),(ss.length:Int),(k:Int),())) ss.length (E:=.exit 0) (B:=.ret) (by simp) (by simp) (fun k=>decide (ss.getD k 0=s)) (fun k hk=>by
  unfold qOB
  simp only
  rw[qGA (by omega),qEA,qBA (by omega),qBA (by omega),qZ0]
  have e:qPt (ss.getD k 0) (some s)=some ((ss.getD k 0 !=s,()),()):=rfl
  rw[e,qAA,w64 (x:=(k:Int)+1) (by omega)]
  by_cases h:ss.getD k 0=s
  ·rw[qID h,if_pos (qZ10 h)];rfl
  ·rw[qDE h,if_neg (fun e=>h (of_decide_eq_true e))]) (by
  unfold qOB
  simp only
  rw[qJA (by omega)])
 rw[qHM ss 0 (fun x=>decide (x=s))] at key
 rw[show ((0:Nat):Int)=0 from rfl] at key
 unfold qVa qJD qOE
 rcases key with ⟨k1,k2⟩ | ⟨k1,j,k2⟩
 ·rw[k2]
  simp only[qAA,qHB,qOA]
  rw[show decide (∀ x∈ss,x=s)=true from qZ10 (by simpa [qY3] using k1)]
  rfl
 ·rw[k2]
  simp only[qAA,qQC,qNC,qOA,qVA]
  rw[show decide (∀ x∈ss,x=s)=false from qZ9 (fun h=>by rw[List.all_eq_true.2 (fun x hx=>qZ10 (h x hx))] at k1;cases k1),qZ10 (show (j:Int)>=0 by omega)]
  rfl
theorem qNs {n:Nod} {ss:List Int} (ho:1<=nOp n/\nOp n<=20) (hl:ss.length<=1000000000) (hc:qXA (nOp n) ss.length=true):qMe n ss=some ((qDD n 3 ss,()),()):=by
 obtain ⟨o,s,nm,num,kd⟩:=n
 simp only[nOp] at ho hc
 unfold qMe qDD
 simp only[nOp,qGG,qHw hl,qHw (show (ss.drop 1).length<=1000000000 by simp;omega),qYac,qEd,qAA,decide_eq_true_eq,show (0:Int).toNat=0 from rfl,show (1:Int).toNat=1 from rfl,show (2:Int).toNat=2 from rfl]
 by_cases h3:o=3;· rw[qFA h3,if_pos (.inl h3)]
 rw[qDA h3]
 by_cases h4:o=4;· rw[qFA h4,if_pos (.inr (.inl h4))]
 rw[qDA h4]
 by_cases h5:o=5;· rw[qFA h5,if_pos (.inr (.inr h5))]
 rw[qDA h5,if_neg (show ¬ (o=3\/o=4\/o=5) by omega)]
 by_cases h1:o=1;· rw[qFA h1,if_pos (show o=1\/o=2\/o=6\/o=7\/o=8\/o=9 by omega)]
 rw[qDA h1]
 by_cases h2:o=2;· rw[qFA h2,if_pos (show o=1\/o=2\/o=6\/o=7\/o=8\/o=9 by omega)]
 rw[qDA h2]
 by_cases h6:o=6;· rw[qFA h6,if_pos (show o=1\/o=2\/o=6\/o=7\/o=8\/o=9 by omega)]
 rw[qDA h6]
 by_cases h7:o=7;· rw[qFA h7,if_pos (show o=1\/o=2\/o=6\/o=7\/o=8\/o=9 by omega)]
 rw[qDA h7]
 by_cases h8:o=8;· rw[qFA h8,if_pos (show o=1\/o=2\/o=6\/o=7\/o=8\/o=9 by omega)]
 rw[qDA h8]
 by_cases h9:o=9;· rw[qFA h9,if_pos (show o=1\/o=2\/o=6\/o=7\/o=8\/o=9 by omega)]
 rw[qDA h9,if_neg (show ¬ (o=1\/o=2\/o=6\/o=7\/o=8\/o=9) by omega)]
 by_cases h10:o=10
 ·subst h10
  rcases ss with _ | ⟨a,_ | ⟨b,_ | ⟨c,_ | ⟨d,l⟩⟩⟩⟩<;>simp[qXA] at hc
  ·by_cases q:a=1
   ·simp[grd,q]
   ·simp[grd,q,show (a==1)=false by simpa using q]
  ·omega
 rw[qDA h10,if_neg h10]
 by_cases h11:o=11
 ·subst h11
  rcases ss with _ | ⟨a,_ | ⟨b,_ | ⟨c,l⟩⟩⟩<;>simp[qXA] at hc
  ·simp[grd]
  ·omega
 rw[qDA h11,if_neg h11]
 by_cases h12:o=12
 ·subst h12
  rcases ss with _ | ⟨a,_ | ⟨b,_ | ⟨c,l⟩⟩⟩<;>simp[qXA] at hc
  ·by_cases q:a=2\/a=3<;>simp[grd,q]
  ·omega
 rw[qDA h12]
 by_cases h13:o=13
 ·subst h13
  rcases ss with _ | ⟨a,_ | ⟨b,_ | ⟨c,l⟩⟩⟩<;>simp[qXA] at hc
  ·by_cases q:a=2\/a=3<;>simp[grd,q]
  ·omega
 rw[qDA h13,if_neg (show ¬ (o=12\/o=13) by omega)]
 by_cases h14:o=14
 ·subst h14
  rcases ss with _ | ⟨a,l⟩<;>simp[qXA] at hc
  by_cases q:a=2\/a=3<;>simp[grd,q]
 rw[qDA h14,if_neg h14]
 by_cases h15:o=15
 ·subst h15
  rcases ss with _ | ⟨a,_ | ⟨b,_ | ⟨c,l⟩⟩⟩<;>simp[qXA] at hc
  ·by_cases q:a=2\/a=3<;>simp[grd,q]
  ·omega
 rw[qDA h15,if_neg h15]
 by_cases h16:o=16
 ·subst h16
  rcases ss with _ | ⟨a,_ | ⟨b,l⟩⟩<;>simp[qXA] at hc
  ·simp[grd]
  ·omega
 rw[qDA h16]
 by_cases h17:o=17
 ·subst h17
  rcases ss with _ | ⟨a,_ | ⟨b,l⟩⟩<;>simp[qXA] at hc
  ·simp[grd]
  ·omega
 rw[qDA h17,if_neg (show ¬ (o=16\/o=17) by omega)]
 by_cases h18:o=18
 ·subst h18
  rcases ss with _ | ⟨a,_ | ⟨b,_ | ⟨c,l⟩⟩⟩<;>simp[qXA] at hc
  ·by_cases q:a=4
   ·simp[grd,q]
   ·simp[grd,q,show (a==4)=false by simpa using q]
  ·omega
 rw[qDA h18,if_neg h18]
 by_cases h19:o=19
 ·subst h19
  rcases ss with _ | ⟨a,_ | ⟨b,_ | ⟨c,_ | ⟨d,l⟩⟩⟩⟩<;>simp[qXA] at hc
  ·by_cases q:a=4
   ·simp[grd,q]
   ·simp[grd,q,show (a==4)=false by simpa using q]
  ·omega
 rw[qDA h19,if_neg h19]
 obtain rfl:o=20:=by omega
 rcases ss with _ | ⟨a,_ | ⟨b,l⟩⟩<;>simp[qXA] at hc
 ·simp[grd]
 ·omega
namespace Tf
def info:Nat->Tf->List (Int×Int×Int)
 |_,nil=>[]
 |p,cons n k r=>((if 0∈srt k then 0 else qDD n (op1 k) (srt k)),((dep k+1:Nat):Int),((p+1+size k:Nat):Int))::(info (p+1) k++info (p+1+size k) r)
def rts:Nat->Tf->List Int
 |_,nil=>[]
 |p,cons _ k r=>rts (p+1+size k) r++[(p:Int)]
def rtf:Nat->Tf->List Int
 |_,nil=>[]
 |p,cons _ k r=>(p:Int)::rtf (p+1+size k) r
theorem qVK (f:Tf):∀ p,(info p f).length=f.size:=by
 induction f with
 |nil=>intro p;rfl
 |cons n k r ik ir=>intro p;simp only[info,size,qY11,qZ6,ik,ir]
theorem qOv (f g:Tf):∀ p,info p (f.app g)=info p f++info (p+f.size) g:=by
 induction f with
 |nil=>intro p;simp[app,info,size]
 |cons n k r _ ir=>
  intro p
  have e:p+1+size k+size r=p+(size k+size r+1):=by omega
  simp only[app,info,size,ir,qY5,qZ1,e]
theorem qZaq (f g:Tf):∀ p,rts p (f.app g)=rts (p+f.size) g++rts p f:=by
 induction f with
 |nil=>intro p;simp[app,rts,size]
 |cons n k r _ ir=>
  intro p
  have e:p+1+size k+size r=p+(size k+size r+1):=by omega
  simp only[app,rts,size,ir,qZ1,e]
theorem qDV (f:Tf):∀ p,(rts p f).length=f.len:=by
 induction f with
 |nil=>intro p;rfl
 |cons n k r _ ir=>intro p;simp[rts,len,ir]
theorem qSao (f:Tf):∀ p,(rts p f).reverse=rtf p f:=by
 induction f with
 |nil=>intro p;rfl
 |cons n k r _ ir=>intro p;simp[rts,rtf,ir]
end Tf
open Tf
theorem qFac {α β γ:Type} (f:β->γ->Option γ) (g:α->β):∀ (l:List α) (y:γ),foldO (fun a y=>f (g a) y) l y=foldO f (l.map g) y:=by
 intro l
 induction l with
 |nil=>intro y;rfl
 |cons a l ih=>intro y;simp only[foldO,List.map_cons];congr 1;funext z;exact ih z
theorem qNag {β:Type} (f:Int->β->Option β) (l:List Int) (y:β):foldO (fun (p:Int×Nat) y=>f p.1 y) l.zipIdx.reverse y=foldO f l.reverse y:=by
 rw[qFac f (fun p:Int×Nat=>p.1),List.map_reverse]
 congr 2
 exact List.zipIdx_map_fst 0 l
theorem qIK {α:Type} {l r:List α} {p:Nat} {x d:α} (h:l.drop p=x::r):l.getD p d=x/\p < l.length:=by
 have h0:(l.drop p)[0]?=some x:=by rw[h];rfl
 rw[List.getElem?_drop] at h0
 have e:p+0=p:=by omega
 rw[e] at h0
 exact ⟨by rw[qZ4,h0];rfl,(List.getElem?_eq_some_iff.1 h0).1⟩
abbrev LkS:=((List Nod)×List (Int×Sml))×(Int×Sml)×(List Int)×Unit
def lkG (v:Int) (y:LkS):Option LkS:=(qRP v 0 y).bind fun o=>some (qKL y o)
theorem qUae (t:List Nod) (P:List (Int×Sml)) (hP:P.length<=20000):∀ (k:Tf) (p:Nat) (s0:Int) (d0:Nat) (ss:List Int),(∃ rest,P.drop p=info p k++rest)->1<=d0->d0<=100000->ss.length+k.len<=100000->
 foldO lkG (rtf p k) ((t,P),(s0,(d0:Int),(p:Int)),ss,())=some ((t,P),(s0,((max d0 (k.dep+1):Nat):Int),((p+k.size:Nat):Int)),ss++k.srt,()):=by
 intro k
 induction k with
 |nil=>
  intro p s0 d0 ss _ h1 _ _
  have e:max d0 (dep nil+1)=d0:=by simp only[dep];omega
  simp only[rtf,foldO,srt,qY4,size,Nat.add_zero,e]
 |cons n k r ik ir=>
  intro p s0 d0 ss ⟨rest,hr⟩ h1 h2 h3
  simp only[info,qY5] at hr
  obtain ⟨g1,g2⟩:=qIK (d:=((0:Int),(0:Int),(0:Int))) hr
  have hz:size k+size r+1<=P.length:=by
   have:=congrArg List.length hr
   simp only[List.length_drop,qY11,qZ6,qVK] at this
   omega
  have hdk:=qNw k
  have hdr:=qNw r
  have hlr:=qWK r
  simp only[len] at h3
  simp only[rtf,foldO]
  have hstep:lkG (p:Int) ((t,P),(s0,(d0:Int),(p:Int)),ss,())=some ((t,P),(s0,((max d0 (k.dep+2):Nat):Int),((p+1+size k:Nat):Int)),ss++[if 0∈srt k then 0 else qDD n (op1 k) (srt k)],()):=by
   unfold lkG qRP qKL
   simp only
   rw[qZ0,g1]
   rw[qEA,qBA (by omega),qBA (by omega),qBA g2,qBA (by simp[qKF];omega),qEA,qBA (by omega),qBA (by omega),qBA g2,qEA,qBA (by omega),qBA (by omega),qBA g2,qAA]
   rw[w64 (x:=((dep k+1:Nat):Int)+1) (by omega)]
   have:qSc (d0:Int) (((dep k+1:Nat):Int)+1)=((max d0 (k.dep+2):Nat):Int):=by rw[qTe];split<;>omega
   rw[this]
  rw[hstep,Option.bind_some]
  rw[ir (p+1+size k) s0 (max d0 (k.dep+2)) _ ⟨rest,by
   have:=congrArg (List.drop (1+size k)) hr
   rw[List.drop_drop] at this
   have e:p+(1+size k)=p+1+size k:=by omega
   rw[e] at this
   rw[this,Nat.add_comm 1,List.drop_succ_cons,qZ1,List.drop_append_of_le_length (by rw[qVK];omega)]
   have:(info (p+1) k).drop (size k)=[]:=qY7 (by rw[qVK];omega)
   rw[this,qY15]⟩ (by omega) (by omega) (by simp;omega)]
  have e1:max (max d0 (k.dep+2)) (r.dep+1)=max d0 ((cons n k r).dep+1):=by simp only[dep];omega
  have e2:p+1+size k+size r=p+(cons n k r).size:=by simp only[size];omega
  rw[e1,e2]
  simp only[srt,qZ1,qY5,qY15]
theorem qDv (n:Nod) (f:Int) (ss:List Int):qDD n f ss=if nOp n=15/\f≠3 then 0 else qDD n 3 ss:=by
 unfold qDD
 by_cases h:nOp n=15
 ·by_cases hf:f=3
  ·simp[h,hf]
  ·simp[h,hf]
 ·simp[h]
theorem qWaa:∀ (i:Nat) {t:List Nod} {f:Tf},bkp t=some f->∃ g,bkp (t.drop i)=some g:=by
 intro i
 induction i with
 |zero=>intro t f h;exact ⟨f,by simpa using h⟩
 |succ i ih=>
  intro t f h
  cases t with
  |nil=>exact ⟨nil,by simp[bkp]⟩
  |cons n l=>
   simp only[bkp,Option.bind_eq_some_iff] at h
   obtain ⟨g,hg,_⟩:=h
   simpa using ih hg
def qLS (t:List Nod):Prop:=∀ n∈t,(qQT n).length<=100000
theorem qOad {t:List Nod} (hs:qLS t) (hl:t.length<=20000) {i:Nat} (hi:i < t.length) {F:Tf} {P:List (Int×Sml)} (hF:bkp (t.drop (i+1))=some F) (hP:P.length=t.length) (hPi:P.drop (i+1)=info (i+1) F) :
 (bkp (t.drop i)=none/\∃ v,qFO (t,(none:Option qQR),false,(t,P),rts (i+1) F,(i:Int),())=some (.ret,(t,(none:Option qQR),false,v,rts (i+1) F,(i:Int),())))\/
 ∃ G P',bkp (t.drop i)=some G/\P'.length=t.length/\P'.drop i=info i G/\qFO (t,(none:Option qQR),false,(t,P),rts (i+1) F,(i:Int),())=some (.normal,(t,(none:Option qQR),false,(t,P'),rts i G,(i:Int) - 1,())):=by
 obtain ⟨hf1,hf2,hf3⟩:=qGg hF
 have hsz:F.size=t.length - (i+1):=by rw[<-qMC,hf1,List.length_drop]
 have hfl:=qWK F
 have hget:t.getD i qPE=t[i]:=by simp[qZ4,hi]
 have hmem:t[i]∈t:=List.getElem_mem hi
 have hbp:bkp (t.drop i)=if okN t[i]=true/\qPF t[i]<=(F.len:Int)/\(0:Int)≠qDD t[i] (op1 (take (qPF t[i]).toNat F)) (take (qPF t[i]).toNat F).srt then some (cons t[i] (take (qPF t[i]).toNat F) (drop (qPF t[i]).toNat F)) else none:=by
  rw[qY6 hi]
  simp only[bkp,hF,Option.bind_some]
 have hnum:=hs _ hmem
 have hfe:=qHu (n:=t[i]) (by omega)
 unfold qFO
 simp only
 rw[qGA (by omega),qEA,qBA (by omega),qBA (by omega),qZ0,hget]
 generalize hn:t[i]=n at hbp hnum hfe ⊢
 have hK:n.2.2.2.2=qPF n:=rfl
 have hO:n.1=nOp n:=rfl
 rw[hK,hO,qDV]
 by_cases q1:qPF n < 0
 ·rw[qGA q1]
  refine .inl ⟨?_,_,rfl⟩
  rw[hbp,if_neg]
  rintro ⟨h,_⟩
  unfold okN at h
  simp only[qY0] at h
  have:=qDR h.2
  omega
 rw[qJA q1]
 by_cases q2:qPF n > (F.len:Int)
 ·rw[qGA q2]
  exact .inl ⟨by rw[hbp,if_neg (by omega)],_,rfl⟩
 rw[qJA q2,hfe,qAA]
 by_cases q3:qRC n=false
 ·rw[q3]
  refine .inl ⟨?_,_,rfl⟩
  rw[hbp,if_neg]
  rintro ⟨h,_⟩
  unfold okN at h
  rw[q3] at h
  cases h
 rw[Bool.not_eq_false] at q3
 rw[q3]
 simp only[qY2,qVA]
 rw[qHab (by omega),qAA]
 by_cases q4:qXA (nOp n) (qPF n)=false
 ·rw[q4]
  refine .inl ⟨?_,_,rfl⟩
  rw[hbp,if_neg]
  rintro ⟨h,_⟩
  unfold okN at h
  rw[q4,Bool.and_false] at h
  cases h
 rw[Bool.not_eq_false] at q4
 rw[q4]
 simp only[qY2,qVA]
 have hok:okN n=true:=by unfold okN;rw[q3,q4];rfl
 obtain ⟨c,hc⟩:∃ c:Nat,qPF n=(c:Int):=⟨(qPF n).toNat,by omega⟩
 have hct:(qPF n).toNat=c:=by omega
 rw[hct] at hbp
 have hFe:=qHp c F
 have hkl:=qVv c F (by omega)
 generalize hk:take c F=k at hbp hFe hkl
 generalize hr:drop c F=r at hbp hFe
 have hlen:F.len=k.len+r.len:=by rw[<-hFe,qAt]
 have hsize:F.size=k.size+r.size:=by rw[<-hFe,qBf]
 have hrl:r.len=F.len - c:=by omega
 have hR:rts (i+1) F=rts (i+1+k.size) r++rts (i+1) k:=by rw[<-hFe,qZaq]
 have hw:qI ((F.len:Int) - qPF n)=(r.len:Int):=by rw[w64 (by omega)];omega
 have hRd:(rts (i+1) F).drop r.len=rts (i+1) k:=by
  rw[hR,List.drop_append_of_le_length (by rw[qDV];omega),qY7 (by rw[qDV];omega),qY15]
 have hRt:(rts (i+1) F).take r.len=rts (i+1+k.size) r:=by
  rw[hR,List.take_append_of_le_length (by rw[qDV];omega),List.take_of_length_le (by rw[qDV];omega)]
 have hRdt:((rts (i+1) F).drop r.len).take (F.len - r.len)=rts (i+1) k:=by
  rw[hRd,List.take_of_length_le (by rw[qDV];omega)]
 have hfold:=qUae t P (by omega) k (i+1) 0 1 [] ⟨info (i+1+k.size) r,by rw[hPi,<-hFe,qOv]⟩ (by omega) (by omega) (by simp;omega)
 rw[hw,qZ0,hRdt]
 rw[qEA,qBA (by omega),qBA (by omega),qBA (by rw[qDV];simp only[qKF];omega)]
 have hidx:foldO (fun (p:Int×Nat) y=>(qRP p.1 p.2 y).bind fun o=>some (qKL y o)) (rts (i+1) k).zipIdx.reverse ((t,P),((0:Int),1,qI ((i:Int)+1)),([]:List Int),())=foldO lkG (rtf (i+1) k) ((t,P),((0:Int),((1:Nat):Int),((i+1:Nat):Int)),([]:List Int),()):=by
  rw[<-qSao,<-qNag lkG]
  rw[w64 (by omega)]
  rfl
 rw[hidx,hfold,qAA,qAA]
 unfold qGR
 simp only[qY15]
 have hss:k.srt.length=c:=by rw[qKM];exact hkl
 have hop:1<=nOp n/\nOp n<=20:=by
  unfold qRC at q3
  split at q3
  ·omega
  ·split at q3
   ·omega
   ·split at q3
    ·omega
    ·simp only[qY0,decide_eq_true_eq] at q3
     exact q3.1.1.1
 rw[qNs hop (by omega) (by rw[hss,<-hc];exact q4),qAA]
 have hfirst:=qDv n (op1 k) k.srt
 by_cases q5:qDD n 3 k.srt=0
 ·rw[qFA q5]
  refine .inl ⟨?_,_,rfl⟩
  rw[hbp,if_neg]
  rintro ⟨_,_,h⟩
  rw[hfirst,q5] at h
  split at h<;>exact h rfl
 rw[qDA q5]
 have hwi:qI ((i:Int)+1)=((i+1:Nat):Int):=by rw[w64 (by omega)];omega
 have hwm:qI ((i:Int) - 1)=(i:Int) - 1:=w64 (by omega)
 have hgood:∀ (hx:¬ (nOp n=15/\op1 k≠3)),bkp (t.drop i)=some (cons n k r)/\(P.set i (qDD n 3 k.srt,((max 1 (k.dep+1):Nat):Int),((i+1+k.size:Nat):Int))).drop i=info i (cons n k r):=by
  intro hx
  rw[if_neg hx] at hfirst
  refine ⟨by rw[hbp,if_pos ⟨hok,by omega,by rw[hfirst];exact fun e=>q5 e.symm⟩],?_⟩
  have h0:(0:Int)∉k.srt:=fun h=>hf3 (by rw[<-hFe,qNc,qZ7];exact .inl h)
  rw[qY6 (by simp;omega)]
  simp only[info]
  rw[if_neg h0,hfirst,List.getElem_set_self,List.drop_set_of_lt (by omega),hPi,<-hFe,qOv]
  have e:max 1 (k.dep+1)=k.dep+1:=by omega
  rw[e]
 have hlt:P.length=t.length:=hP
 by_cases q6:nOp n=15
 ·rw[qFA q6,hwi,qEA,qBA (by omega)]
  have hk2:0 < k.len:=by
   have:qXA 15 (qPF n)=decide (qPF n=2):=rfl
   rw[q6,this,decide_eq_true_eq] at q4
   omega
  have hkne:∃ n1 k1 r1,k=cons n1 k1 r1:=by
   cases k with
   |nil=>simp[len] at hk2
   |cons n1 k1 r1=>exact ⟨n1,k1,r1,rfl⟩
  obtain ⟨n1,k1,r1,hke⟩:=hkne
  have hd:t.drop (i+1)=n1::(k1.flat++r1.flat++r.flat):=by
   rw[<-hf1,<-hFe,hke]
   simp only[app,flat,qAW,qZ1]
  obtain ⟨g1,g2⟩:=qIK (d:=qPE) hd
  have ho1:op1 k=n1.1:=by rw[hke];rfl
  rw[qBA (by omega),qZ0,g1]
  by_cases q7:n1.1=3
  ·rw[qID q7]
   obtain ⟨b1,b2⟩:=hgood (fun h=>h.2 (by rw[ho1];exact q7))
   refine .inr ⟨_,_,b1,by simp[hP],b2,?_⟩
   rw[qEA,qBA (by omega),qBA (by omega),qBA (by omega),qEA,qBA (by omega),qBA (by omega),qBA (by simp[qKF];omega),hRt,hwm]
   rfl
  ·rw[qDE q7]
   refine .inl ⟨?_,_,rfl⟩
   rw[hbp,if_neg]
   rintro ⟨_,_,h⟩
   rw[hfirst,if_pos ⟨q6,by rw[ho1];exact q7⟩] at h
   exact h rfl
 ·rw[qDA q6]
  obtain ⟨b1,b2⟩:=hgood (fun h=>q6 h.1)
  refine .inr ⟨_,_,b1,by simp[hP],b2,?_⟩
  rw[qEA,qBA (by omega),qBA (by omega),qBA (by omega),qEA,qBA (by omega),qBA (by omega),qBA (by simp[qKF];omega),hRt,hwm]
  rfl
theorem qKah {t:List Nod} (hs:qLS t) (hl:t.length<=20000):∀ (j:Nat),j<=t.length->∀ (F:Tf) (P:List (Int×Sml)),bkp (t.drop j)=some F->P.length=t.length->P.drop j=info j F->
 (bkp t=none/\∃ v,qPA qFO (t,(none:Option qQR),false,(t,P),rts j F,(j:Int) - 1,())=some (.ret,(t,(none:Option qQR),false,v)))\/
 ∃ G,bkp t=some G/\qPA qFO (t,(none:Option qQR),false,(t,P),rts j F,(j:Int) - 1,())=some (.exit 0,(t,(none:Option qQR),false,(t,info 0 G),rts 0 G,-1,())):=by
 intro j
 induction j with
 |zero=>
  intro _ F P hF hP hPi
  refine .inr ⟨F,by simpa using hF,qUA ?_ (by simp)⟩
  unfold qFO
  simp only
  rw[qJA (by omega)]
  have e:P=info 0 F:=by simpa using hPi
  rw[e]
  rfl
 |succ j ih=>
  intro hj F P hF hP hPi
  have e:(((j+1:Nat):Int) - 1)=(j:Int):=by omega
  rw[e]
  rcases qOad hs hl (i:=j) (by omega) hF hP hPi with ⟨h1,v,h2⟩ | ⟨G,P',h1,h2,h3,h4⟩
  ·refine .inl ⟨?_,_,qUA h2 (by simp)⟩
   cases hb:bkp t with
   |none=>rfl
   |some f=>
    obtain ⟨g,hg⟩:=qWaa j hb
    rw[h1] at hg;cases hg
  ·rw[qAB h4]
   exact ih (by omega) G P' h1 h2 h3
theorem qGai {t:List Nod} (hs:qLS t) (hl:t.length<=20000):qTv t=some ((match bkp t with | none=>(none,false,()) | some F=>(some (t,info 0 F),decide (F.len=1),())),()):=by
 unfold qTv
 have h:=qKah hs hl t.length (Nat.le_refl _) nil (List.replicate t.length ((0:Int),(0:Int),(0:Int))) (by simp[bkp]) (by simp) (by simp[info])
 rw[qEA,qEA,qBA (by omega),qBA (by omega),qBA (by simp only[qKF];omega),qZ0,w64 (by omega)]
 simp only[rts] at h
 rcases h with ⟨h1,v,h2⟩ | ⟨G,h1,h2⟩
 ·rw[h2,h1]
  simp only[qAA,qQC,qNC,qOA,qVA]
 ·rw[h2,h1]
  simp only[qAA,qHB,qOA,qDV]
  have e:((G.len:Int)==1)=decide (G.len=1):=by
   have e:((G.len:Int)==1)=decide ((G.len:Int)=1):=rfl
   rw[e,decide_eq_decide];omega
  rw[e]
end Go.AM.Num
end
section
namespace Go.AM.Num
theorem qRM {α:Type} (s:qBs) (x:α):∀ l,qMD s (qQc s x l)=some x:=by
 intro l
 induction l with
 |nil=>simp[qQc,qMD]
 |cons a l ih=>
  obtain ⟨k,y⟩:=a
  simp only[qQc]
  by_cases h:k=s
  ·rw[show (k==s)=true by simpa using h];simp[qMD,h]
  ·have hk:(k==s)=false:=by simpa using h
   rw[hk];simp[qMD,hk,ih]
theorem qRQ {α:Type} {s t:qBs} (h:t≠s) (x:α):∀ l,qMD t (qQc s x l)=qMD t l:=by
 intro l
 have h2:(s==t)=false:=by simpa using fun e=>h e.symm
 induction l with
 |nil=>simp[qQc,qMD,h2]
 |cons a l ih=>
  obtain ⟨k,y⟩:=a
  simp only[qQc]
  by_cases hk:k=s
  ·subst hk;simp[qMD,h2]
  ·rw[show (k==s)=false by simpa using hk]
   simp only[qVA,qMD,ih]
namespace Tf
def subs:Tf->List (Nod×Tf)
 |nil=>[]
 |cons n k r=>(n,k)::(subs k++subs r)
theorem qVY (f:Tf):f.subs.length=f.size:=by
 induction f with
 |nil=>rfl
 |cons n k r ik ir=>simp only[subs,size,qY11,qZ6,ik,ir]
theorem qHan (f:Tf):∀ (o p:Nat),p < f.size->∃ n k x rest rest2,f.subs[p]?=some (n,k)/\f.flat.drop p=n::(k.flat++rest)/\(info o f).drop p=x::(info (o+p+1) k++rest2):=by
 induction f with
 |nil=>intro o p h;simp[size] at h
 |cons n k r ik ir=>
  intro o p h
  cases p with
  |zero=>exact ⟨n,k,((if 0∈srt k then 0 else qDD n (op1 k) (srt k)),((dep k+1:Nat):Int),((o+1+size k:Nat):Int)),flat r,info (o+1+size k) r,rfl,rfl,rfl⟩
  |succ p=>
   simp only[size] at h
   by_cases hp:p < k.size
   ·obtain ⟨n',k',x,rest,rest2,h1,h2,h3⟩:=ik (o+1) p hp
    refine ⟨n',k',x,rest++r.flat,rest2++info (o+1+k.size) r,?_,?_,?_⟩
    ·simp only[subs,List.getElem?_cons_succ]
     rw[qY8 (by rw[qVY];exact hp)]
     exact h1
    ·simp only[flat,List.drop_succ_cons]
     rw[List.drop_append_of_le_length (by rw[qMC];omega),h2]
     simp
    ·simp only[info,List.drop_succ_cons]
     rw[List.drop_append_of_le_length (by rw[qVK];omega),h3]
     have e:o+1+p+1=o+(p+1)+1:=by omega
     simp[e]
   ·obtain ⟨n',k',x,rest,rest2,h1,h2,h3⟩:=ir (o+1+k.size) (p - k.size) (by omega)
    refine ⟨n',k',x,rest,rest2,?_,?_,?_⟩
    ·simp only[subs,List.getElem?_cons_succ]
     rw[qY9 (by rw[qVY];omega),qVY]
     exact h1
    ·simp only[flat,List.drop_succ_cons]
     rw[List.drop_append,qMC,qY7 (by rw[qMC];omega),h2]
     rfl
    ·simp only[info,List.drop_succ_cons]
     rw[List.drop_append,qVK,qY7 (by rw[qVK];omega),h3]
     have e:o+1+k.size+(p - k.size)+1=o+(p+1)+1:=by omega
     simp[e]
theorem qOan {f:Tf} (hw:f.wf=true) (hs:(0:Int)∉f.srt):∀ {n:Nod} {k:Tf},(n,k)∈f.subs->okN n=true/\qPF n=(k.len:Int)/\k.wf=true/\(0:Int)∉k.srt:=by
 induction f with
 |nil=>intro n k h;simp[subs] at h
 |cons m a b ia ib=>
  intro n k h
  obtain ⟨h1,h2,h3,h4⟩:=qWH.1 hw
  obtain ⟨s1,s2,s3⟩:=qVI.1 hs
  simp only[subs,qY12,qZ7,Prod.mk.injEq] at h
  rcases h with ⟨rfl,rfl⟩ | h | h
  ·exact ⟨h1,h2,h3,s1⟩
  ·exact ia h3 s1 h
  ·exact ib h4 s3 h
theorem qXe {f:Tf}:∀ {n:Nod} {k:Tf},(n,k)∈f.subs->k.size < f.size:=by
 induction f with
 |nil=>intro n k h;simp[subs] at h
 |cons m a b ia ib=>
  intro n k h
  simp only[subs,qY12,qZ7,Prod.mk.injEq] at h
  simp only[size]
  rcases h with ⟨rfl,rfl⟩ | h | h
  ·omega
  ·have:=ia h;omega
  ·have:=ib h;omega
end Tf
open Tf
theorem qAag (t:List Nod) (P:List (Int×Sml)) (hP:P.length<=20000):∀ (k:Tf) (p:Nat) (out:List Int) (idx:Nat) (K:Int),(∃ rest,P.drop p=info p k++rest)->((idx+k.len:Nat):Int)=K->out.length+k.len<=100000->idx+k.len<=100000->
 qPA qQK (some (t,P),out,(p:Int),K,(idx:Int),())=some (.exit 0,(some (t,P),out++rtf p k,((p+k.size:Nat):Int),K,K,())):=by
 intro k
 induction k with
 |nil=>
  intro p out idx K _ h1 _ _
  simp only[len,Nat.add_zero] at h1
  subst h1
  refine qUA ?_ (by simp)
  unfold qQK
  simp only
  rw[qJA (by omega)]
  simp[rtf,size]
 |cons n k r ik ir=>
  intro p out idx K ⟨rest,hr⟩ h1 h2 h3
  simp only[info,qY5] at hr
  obtain ⟨g1,g2⟩:=qIK (d:=((0:Int),(0:Int),(0:Int))) hr
  simp only[len] at h1 h2 h3
  have hr':P.drop (p+1+size k)=info (p+1+size k) r++rest:=by
   have:=congrArg (List.drop (1+size k)) hr
   rw[List.drop_drop] at this
   have e:p+(1+size k)=p+1+size k:=by omega
   rw[e] at this
   rw[this,Nat.add_comm 1,List.drop_succ_cons,qZ1,List.drop_append_of_le_length (by rw[qVK];omega)]
   have:(info (p+1) k).drop (size k)=[]:=qY7 (by rw[qVK];omega)
   rw[this,qY15]
  rw[qAB (y:=(some (t,P),out++[(p:Int)],((p+1+size k:Nat):Int),K,((idx+1:Nat):Int),())) (by
   unfold qQK
   simp only[Option.isSome_some,Option.getD_some]
   rw[qGA (by omega),qZ0,g1]
   rw[qBA (by simp[qKF];omega),qHV,qEA,qBA (by omega),qBA (by omega),w64 (x:=(idx:Int)+1) (by omega)]
   rfl)]
  rw[ir (p+1+size k) _ (idx+1) K ⟨rest,hr'⟩ (by omega) (by simp;omega) (by omega)]
  have e2:p+1+size k+size r=p+(cons n k r).size:=by simp only[size];omega
  rw[e2]
  simp only[rtf,qZ1,qY5,qY15]
theorem qHao {t:List Nod} {P:List (Int×Sml)} (hP:P.length<=20000) {p:Nat} {n:Nod} {k:Tf} {rest:List (Int×Sml)} (hp:p < t.length) (ht:t.getD p qPE=n) (hn:qPF n=(k.len:Int)) (hd:P.drop (p+1)=info (p+1) k++rest) (hk:k.size<=20000) (hpl:p<=20000) :
 qJQ (some (t,P)) (p:Int)=some ((rtf (p+1) k,()),()):=by
 have hkl:=qWK k
 unfold qJQ
 simp only[Option.isSome_some,Option.getD_some]
 rw[qHV,qEA,qBA (by omega),qBA (by omega),qZ0,ht,w64 (by omega)]
 have hK:n.2.2.2.2=(k.len:Int):=hn
 have:=qAag t P hP k (p+1) [] 0 (k.len:Int) ⟨rest,hd⟩ (by simp) (by simp;omega) (by omega)
 rw[hK]
 have e:((p+1:Nat):Int)=(p:Int)+1:=by omega
 rw[e] at this
 rw[show ((0:Nat):Int)=0 from rfl] at this
 rw[this]
 simp only[qAA,qHB,qOA,qY15]
theorem qRak (t:List Nod) (P:List (Int×Sml)) (hP:P.length<=20000) (t4:qBs×qCA) (nm:qBs) (s:Int):∀ (k:Tf) (p:Nat) (args pre:List Int),(∃ rest,P.drop p=info p k++rest)->args.length+k.len<=100000->pre.length+k.len<=100000->
 qPA t_view_signature_s3 (some (t,P),t4,(nm,args,s),pre++rtf p k,((pre++rtf p k).length:Int),(pre.length:Int),())=some (.exit 0,(some (t,P),t4,(nm,args++k.srt,s),pre++rtf p k,((pre++rtf p k).length:Int),((pre++rtf p k).length:Int),())):=by
 intro k
 induction k with
 |nil=>
  intro p args pre _ _ _
  refine qUA ?_ (by simp)
  unfold t_view_signature_s3
  simp only[rtf,qY4]
  rw[qJA (by omega)]
  simp[srt]
 |cons n k r ik ir=>
  intro p args pre ⟨rest,hr⟩ h2 h3
  simp only[info,qY5] at hr
  obtain ⟨g1,g2⟩:=qIK (d:=((0:Int),(0:Int),(0:Int))) hr
  simp only[len] at h2 h3
  have hr':P.drop (p+1+size k)=info (p+1+size k) r++rest:=by
   have:=congrArg (List.drop (1+size k)) hr
   rw[List.drop_drop] at this
   have e:p+(1+size k)=p+1+size k:=by omega
   rw[e] at this
   rw[this,Nat.add_comm 1,List.drop_succ_cons,qZ1,List.drop_append_of_le_length (by rw[qVK];omega)]
   have:(info (p+1) k).drop (size k)=[]:=qY7 (by rw[qVK];omega)
   rw[this,qY15]
  have ih:=ir (p+1+size k) (args++[if 0∈srt k then 0 else qDD n (op1 k) (srt k)]) (pre++[(p:Int)]) ⟨rest,hr'⟩ (by simp;omega) (by simp;omega)
  simp only[qZ1,qY5,qY15] at ih
  simp only[rtf,srt]
  rw[qAB (y:=(some (t,P),t4,(nm,args++[if 0∈srt k then 0 else qDD n (op1 k) (srt k)],s),pre++(p:Int)::rtf (p+1+size k) r,((pre++(p:Int)::rtf (p+1+size k) r).length:Int),((pre.length+1:Nat):Int),())) (by
   unfold t_view_signature_s3
   have e:(pre++(p:Int)::rtf (p+1+size k) r).getD pre.length 0=(p:Int):=by simp[qZ4]
   simp only[Option.isSome_some,Option.getD_some]
   rw[qGA (by simp;omega),qEA,qBA (by omega),qBA (by simp;omega),qHV,qZ0,e,qEA,qBA (by omega),qBA (by omega),qZ0,g1,qBA (by simp[qKF];omega),w64 (x:=(pre.length:Int)+1) (by omega)]
   rfl)]
  have e2:(pre++[(p:Int)]).length=pre.length+1:=by simp
  rw[e2] at ih
  rw[ih]
theorem qTat {t:List Nod} {P:List (Int×Sml)} (hP:P.length<=20000) {p:Nat} {n:Nod} {k:Tf} {rest:List (Int×Sml)} (hp:p < t.length) (ht:t.getD p qPE=n) (hn:qPF n=(k.len:Int)) (hd:P.drop (p+1)=info (p+1) k++rest) (hk:k.size<=20000) (hpl:p<=20000) :
 qRK (some (t,P)) (p:Int)=some (((qCP n,k.srt,qGG n),()),()):=by
 have hkl:=qWK k
 unfold qRK
 simp only[Option.isSome_some,Option.getD_some]
 rw[qHV,qEA,qBA (by omega),qBA (by omega),qHV,qEA,qBA (by omega),qBA (by omega),qZ0,ht,qHao hP hp ht hn hd hk hpl,qAA]
 have:=qRak t P hP (([]:qBs),([]:List Int),(0:Int)) n.2.2.1 n.2.1 k (p+1) [] [] ⟨rest,hd⟩ (by simp;omega) (by simp;omega)
 simp only[qY15,List.length_nil] at this
 rw[show ((0:Nat):Int)=0 from rfl] at this
 rw[this]
 simp only[qAA,qHB,qOA]
abbrev Us:=qBs×Bool×List Int×Int
def qKT (x:Nod×Tf):Option Us:=if nOp x.1=4 then some (qCP x.1,false,[],qGG x.1) else if nOp x.1=5 then some (qCP x.1,true,x.2.srt,qGG x.1) else none
def qLs (f:Tf):List Us:=f.subs.filterMap qKT
def Cns (us:List Us):Prop:=∀ a∈us,∀ b∈us,a.1=b.1->a=b
theorem Cns.mono {us vs:List Us} (h:Cns vs) (hs:∀ a∈us,a∈vs):Cns us:=fun a ha b hb e=>h a (hs a ha) b (hs b hb) e
structure NI (us:List Us) (vars:List (qBs×Vr)) (funcs:List (qBs×qBs×qCA)):Prop where
 cns:Cns us
 w:∀ a∈us,(a.2.1=false/\a.2.2.1=[])\/a.2.1=true
 v:∀ nm x,qMD nm vars=some x->x.1=nm/\(nm,false,[],x.2)∈us
 v':∀ nm s,(nm,false,[],s)∈us->(qMD nm vars).isSome=true
 f:∀ nm x,qMD nm funcs=some x->x.1=nm/\(nm,true,x.2.1,x.2.2)∈us
 f':∀ nm a s,(nm,true,a,s)∈us->(qMD nm funcs).isSome=true
theorem NI.nil:NI [] [] []:=⟨fun a h=>absurd h qY16,fun a h=>absurd h qY16,fun nm x h=>(by simp[qMD] at h),fun nm s h=>absurd h qY16,fun nm x h=>(by simp[qMD] at h),fun nm a s h=>absurd h qY16⟩
theorem NI.fresh {us:List Us} {vars:List (qBs×Vr)} {funcs:List (qBs×qBs×qCA)} (h:NI us vars funcs) {nm:qBs} (h1:qMD nm vars=none) (h2:qMD nm funcs=none):∀ a∈us,a.1≠nm:=by
 rintro ⟨m,b,l,s⟩ ha e
 simp only at e
 subst e
 rcases h.w _ ha with ⟨e1,e2⟩ | e1
 ·simp only at e1 e2;subst e1;subst e2
  have:=h.v' _ _ ha
  rw[h1] at this;cases this
 ·simp only at e1;subst e1
  have:=h.f' _ _ _ ha
  rw[h2] at this;cases this
theorem qFn {us:List Us} {u:Us} (h:Cns us) (hu:∀ a∈us,a.1=u.1->a=u):Cns (us++[u]):=by
 intro a ha b hb e
 rcases List.mem_append.1 ha with ha1 | ha1
 ·rcases List.mem_append.1 hb with hb1 | hb1
  ·exact h a ha1 b hb1 e
  ·rw[qZ8] at hb1
   rw[hb1] at e ⊢
   exact hu a ha1 e
 ·rw[qZ8] at ha1
  rw[ha1] at e ⊢
  rcases List.mem_append.1 hb with hb1 | hb1
  ·exact (hu b hb1 e.symm).symm
  ·rw[qZ8] at hb1;exact hb1.symm
theorem NI.addV {us:List Us} {vars:List (qBs×Vr)} {funcs:List (qBs×qBs×qCA)} (h:NI us vars funcs) {nm:qBs} {s:Int} (h1:qMD nm vars=none) (h2:qMD nm funcs=none):NI (us++[(nm,false,[],s)]) (qQc nm (nm,s) vars) funcs:=by
 have hf:=h.fresh h1 h2
 refine ⟨qFn h.cns fun a ha e=>absurd e (hf a ha),fun a ha=>?_,fun m x hx=>?_,fun m x hx=>?_,fun m x hx=>?_,fun m a x hx=>?_⟩
 ·rcases List.mem_append.1 ha with ha | ha
  ·exact h.w a ha
  ·rw[qZ8] at ha;subst ha;exact .inl ⟨rfl,rfl⟩
 ·by_cases e:m=nm
  ·subst e;rw[qRM] at hx;cases hx;exact ⟨rfl,by simp⟩
  ·rw[qRQ e] at hx
   obtain ⟨a1,a2⟩:=h.v m x hx
   exact ⟨a1,List.mem_append_left _ a2⟩
 ·by_cases e:m=nm
  ·subst e;rw[qRM];rfl
  ·rw[qRQ e]
   rcases List.mem_append.1 hx with hx | hx
   ·exact h.v' m x hx
   ·rw[qZ8] at hx;cases hx;exact absurd rfl e
 ·obtain ⟨a1,a2⟩:=h.f m x hx
  exact ⟨a1,List.mem_append_left _ a2⟩
 ·rcases List.mem_append.1 hx with hx | hx
  ·exact h.f' m a x hx
  ·rw[qZ8] at hx;cases hx
theorem NI.addF {us:List Us} {vars:List (qBs×Vr)} {funcs:List (qBs×qBs×qCA)} (h:NI us vars funcs) {nm:qBs} {l:List Int} {s:Int} (h1:qMD nm vars=none) (h2:qMD nm funcs=none):NI (us++[(nm,true,l,s)]) vars (qQc nm (nm,l,s) funcs):=by
 have hf:=h.fresh h1 h2
 refine ⟨qFn h.cns fun a ha e=>absurd e (hf a ha),fun a ha=>?_,fun m x hx=>?_,fun m x hx=>?_,fun m x hx=>?_,fun m a x hx=>?_⟩
 ·rcases List.mem_append.1 ha with ha | ha
  ·exact h.w a ha
  ·rw[qZ8] at ha;subst ha;exact .inr rfl
 ·obtain ⟨a1,a2⟩:=h.v m x hx
  exact ⟨a1,List.mem_append_left _ a2⟩
 ·rcases List.mem_append.1 hx with hx | hx
  ·exact h.v' m x hx
  ·rw[qZ8] at hx;cases hx
 ·by_cases e:m=nm
  ·subst e;rw[qRM] at hx;cases hx;exact ⟨rfl,by simp⟩
  ·rw[qRQ e] at hx
   obtain ⟨a1,a2⟩:=h.f m x hx
   exact ⟨a1,List.mem_append_left _ a2⟩
 ·by_cases e:m=nm
  ·subst e;rw[qRM];rfl
  ·rw[qRQ e]
   rcases List.mem_append.1 hx with hx | hx
   ·exact h.f' m a x hx
   ·rw[qZ8] at hx;cases hx;exact absurd rfl e
theorem NI.again {us:List Us} {vars:List (qBs×Vr)} {funcs:List (qBs×qBs×qCA)} (h:NI us vars funcs) {u:Us} (hu:u∈us):NI (us++[u]) vars funcs:=by
 have hm:∀ a,a∈us++[u] ↔ a∈us:=fun a=>by
  rw[qZ7,qZ8]
  exact ⟨fun h=>h.elim id fun e=>e ▸ hu,.inl⟩
 exact ⟨qFn h.cns fun a ha e=>h.cns a ha u hu e,fun a ha=>h.w a ((hm a).1 ha),fun m x hx=>⟨(h.v m x hx).1,(hm _).2 (h.v m x hx).2⟩,fun m s hx=>h.v' m s ((hm _).1 hx),fun m x hx=>⟨(h.f m x hx).1,(hm _).2 (h.f m x hx).2⟩,fun m a s hx=>h.f' m a s ((hm _).1 hx)⟩
end Go.AM.Num
end
section
namespace Go.AM.Num
open Tf
theorem qFae {a b:List Int} (ha:a.length<=2000000000):qAH a b=some ((decide (a=b),()),()):=by
 unfold qAH
 by_cases hl:a.length=b.length
 ·rw[qID (by omega)]
  have:=qOG (step:=qGE) (fun k=>(a,b,false,(a.length:Int),(k:Int),())) (fun k=>(a,b,false,(a.length:Int),(k:Int),())) a.length (E:=.exit 0) (B:=.ret) (by simp) (by simp) (fun k=>decide (a.getD k 0=b.getD k 0)) (fun k hk=>by
   unfold qGE
   simp only
   rw[qGA (by omega),qEA,qBA (by omega),qBA (by omega),qEA,qBA (by omega),qBA (by omega),qZ0,w64 (by omega)]
   by_cases h:a.getD k 0=b.getD k 0
   ·rw[qID h,if_pos (qZ10 h)];rfl
   ·rw[qDE h,if_neg (fun e=>h (of_decide_eq_true e))]) (by
   unfold qGE
   simp only
   rw[qJA (by omega)])
  rw[show ((0:Nat):Int)=0 from rfl] at this
  have heq:(List.range a.length).all (fun k=>decide (a.getD k 0=b.getD k 0))=decide (a=b):=by
   rw[Bool.eq_iff_iff,qY3,decide_eq_true_eq]
   constructor
   ·intro h
    refine List.ext_getElem hl fun k h1 h2=>?_
    have:=h k (List.mem_range.2 h1)
    simpa [qZ4,h1,h2] using this
   ·rintro rfl k _;simp
  rcases this with ⟨h1,h2⟩ | ⟨h1,k,h2⟩
  ·rw[h2,<-heq,h1];simp only[qAA,qHB,qOA]
  ·rw[h2,<-heq,h1];simp only[qAA,qQC,qNC,qOA,qVA]
 ·rw[qDE (by omega),qZ9 (fun e=>hl (by rw[e]))]
theorem qJq {f g:qBs×qCA} (h:f.2.1.length<=2000000000):qSo f g=some ((decide (f=g),()),()):=by
 obtain ⟨a,l,s⟩:=f
 obtain ⟨b,m,u⟩:=g
 simp only at h
 unfold qSo
 simp only[qFae h,qAA]
 by_cases h1:a=b
 ·rw[show (a==b)=true by simpa using h1,qOA]
  by_cases h2:s=u
  ·rw[qFA h2];simp[h1,h2]
  ·rw[qDA h2,qZ9 (fun e=>h2 (by cases e;rfl))]
 ·rw[show (a==b)=false by simpa using h1,qVA,qZ9 (fun e=>h1 (by cases e;rfl))]
section
variable {F:Tf} {t:List Nod} {P:List (Int×Sml)}
abbrev qTV (F:Tf) (p:Nat):List Us:=(F.subs.take p).filterMap qKT
theorem qAa {p:Nat}:∀ a∈qTV F p,a∈qLs F:=by
 intro a ha
 simp only[qTV,qLs,List.mem_filterMap] at ha ⊢
 obtain ⟨x,h1,h2⟩:=ha
 exact ⟨x,List.mem_of_mem_take h1,h2⟩
theorem qSk {p:Nat} {n:Nod} {k:Tf} (h:F.subs[p]?=some (n,k)):qTV F (p+1)=qTV F p++(qKT (n,k)).toList:=by
 simp only[qTV,List.take_add_one,h,Option.toList_some,List.filterMap_append]
 cases hu:qKT (n,k)<;>simp[hu]
theorem qIaa (hF:F.flat=t) (hw:F.wf=true) (hs:(0:Int)∉F.srt) (hz:F.size<=20000) (hP:P=info 0 F) {p:Nat} (hp:p < F.size) {vars:List (qBs×Vr)} {funcs:List (qBs×qBs×qCA)} {l0:List Vr} {m0:List (qBs×qCA)}
 (hI:NI (qTV F p) vars funcs) (hl:l0.length<=p) (hm:m0.length<=p) :
 (¬ Cns (qTV F (p+1))/\∃ x,qHF (some (t,P),([]:List Vr),([]:List (qBs×qCA)),false,vars,funcs,l0,m0,t,(t.length:Int),(p:Int),())=some (.ret,(some (t,P),([]:List Vr),([]:List (qBs×qCA)),false,x)))\/
 ∃ vars' funcs' l' m',NI (qTV F (p+1)) vars' funcs'/\l'.length<=p+1/\m'.length<=p+1/\qHF (some (t,P),([]:List Vr),([]:List (qBs×qCA)),false,vars,funcs,l0,m0,t,(t.length:Int),(p:Int),())=some (.normal,(some (t,P),([]:List Vr),([]:List (qBs×qCA)),false,vars',funcs',l',m',t,(t.length:Int),((p+1:Nat):Int),())):=by
 obtain ⟨n,k,x,rest,rest2,h1,h2,h3⟩:=qHan F 0 p hp
 obtain ⟨g1,g2⟩:=qIK (d:=qPE) h2
 have hmem:(n,k)∈F.subs:=qY14 h1
 obtain ⟨w1,w2,w3,w4⟩:=qOan hw hs hmem
 have hks:=qXe hmem
 have htl:t.length=F.size:=by rw[<-hF,qMC]
 have hPl:P.length=F.size:=by rw[hP,qVK]
 rw[hF] at g1
 have hd:P.drop (p+1)=info (p+1) k++rest2:=by
  have:=congrArg (List.drop 1) h3
  rw[List.drop_drop] at this
  rw[hP]
  simpa using this
 have hwp:qI ((p:Int)+1)=((p+1:Nat):Int):=by rw[w64 (by omega)];rfl
 have hT:=qSk h1
 unfold qHF
 simp only
 rw[qGA (by omega),qEA,qBA (by omega),qBA (by omega),qZ0,g1,hwp]
 by_cases e4:n.1=4
 ·have hu:qKT (n,k)=some (n.2.2.1,false,[],n.2.1):=by unfold qKT;rw[if_pos e4]
  rw[hu] at hT
  rw[qFA e4]
  cases hv:qMD n.2.2.1 vars with
  |none=>
   simp only[Option.isSome_none,qY1,qOA]
   rw[qBA (by simp[qKF];omega)]
   cases hf:qMD n.2.2.1 funcs with
   |none=>
    simp only[Option.isSome_none,qVA]
    rw[qID rfl]
    exact .inr ⟨_,_,_,_,by rw[hT];exact hI.addV hv hf,by simp;omega,by omega,rfl⟩
   |some g=>
    simp only[Option.isSome_some,qOA]
    refine .inl ⟨fun hc=>?_,_,rfl⟩
    obtain ⟨a1,a2⟩:=hI.f _ _ hf
    rw[hT] at hc
    have:=hc _ (List.mem_append_left _ a2) (n.2.2.1,false,[],n.2.1) (by simp) rfl
    simp at this
  |some y=>
   simp only[Option.isSome_some,qY2,qVA,Option.getD_some]
   obtain ⟨b1,b2⟩:=hI.v _ _ hv
   cases hf:qMD n.2.2.1 funcs with
   |none=>
    simp only[Option.isSome_none,qVA]
    by_cases q:y.2=n.2.1
    ·rw[qID q]
     rw[q] at b2
     exact .inr ⟨_,_,_,_,by rw[hT];exact hI.again b2,by omega,by omega,rfl⟩
    ·rw[qDE q]
     refine .inl ⟨fun hc=>?_,_,rfl⟩
     rw[hT] at hc
     have:=hc _ (List.mem_append_left _ b2) (n.2.2.1,false,[],n.2.1) (by simp) rfl
     simp at this
     exact q this
   |some g=>
    simp only[Option.isSome_some,qOA]
    refine .inl ⟨fun hc=>?_,_,rfl⟩
    obtain ⟨a1,a2⟩:=hI.f _ _ hf
    rw[hT] at hc
    have:=hc _ (List.mem_append_left _ a2) (n.2.2.1,false,[],n.2.1) (by simp) rfl
    simp at this
 ·rw[qDA e4]
  by_cases e5:n.1=5
  ·have hu:qKT (n,k)=some (n.2.2.1,true,k.srt,n.2.1):=by unfold qKT;rw[if_neg e4,if_pos e5]
   rw[hu] at hT
   rw[qFA e5,qTat (by omega) (by omega) g1 w2 hd (by omega) (by omega),qAA]
   have hkl:k.srt.length<=2000000000:=by rw[qKM];have:=qWK k;omega
   simp only
   cases hf:qMD n.2.2.1 funcs with
   |none=>
    simp only[Option.isSome_none,qY1,qOA]
    rw[qBA (by simp[qKF];omega)]
    cases hv:qMD n.2.2.1 vars with
    |none=>
     simp only[Option.isSome_none,qVA]
     rw[qJq hkl,qAA,qZ10 rfl]
     simp only[qY2,qVA]
     exact .inr ⟨_,_,_,_,by rw[hT];exact hI.addF hv hf,by omega,by simp;omega,rfl⟩
    |some y=>
     simp only[Option.isSome_some,qOA]
     refine .inl ⟨fun hc=>?_,_,rfl⟩
     obtain ⟨a1,a2⟩:=hI.v _ _ hv
     rw[hT] at hc
     have:=hc _ (List.mem_append_left _ a2) (n.2.2.1,true,k.srt,n.2.1) (by simp) rfl
     simp at this
   |some g=>
    simp only[Option.isSome_some,qY2,qVA,Option.getD_some]
    obtain ⟨b1,b2⟩:=hI.f _ _ hf
    cases hv:qMD n.2.2.1 vars with
    |none=>
     simp only[Option.isSome_none,qVA]
     obtain ⟨gn,gl,gs⟩:=g
     simp only at b1 b2
     have hgl:gl.length<=2000000000:=by
      obtain ⟨⟨n',k'⟩,m1,m2⟩:=List.mem_filterMap.1 (qAa _ b2)
      unfold qKT at m2
      split at m2
      ·simp at m2
      ·split at m2
       ·simp only[Option.some.injEq,Prod.mk.injEq] at m2
        rw[<-m2.2.2.1,qKM]
        have:=qXe m1;have:=qWK k';omega
       ·cases m2
     rw[qJq hgl,qAA]
     by_cases q:(gn,gl,gs)=(qCP n,k.srt,qGG n)
     ·rw[qZ10 q]
      simp only[qY2,qVA]
      simp only[Prod.mk.injEq] at q
      rw[q.2.1,q.2.2] at b2
      exact .inr ⟨_,_,_,_,by rw[hT];exact hI.again b2,by omega,by omega,rfl⟩
     ·rw[qZ9 q]
      simp only[qY1,qOA]
      refine .inl ⟨fun hc=>?_,_,rfl⟩
      rw[hT] at hc
      have:=hc _ (List.mem_append_left _ b2) (n.2.2.1,true,k.srt,n.2.1) (by simp) rfl
      simp only[Prod.mk.injEq,true_and] at this
      exact q (by rw[b1,this.1,this.2])
    |some y=>
     simp only[Option.isSome_some,qOA]
     refine .inl ⟨fun hc=>?_,_,rfl⟩
     obtain ⟨a1,a2⟩:=hI.v _ _ hv
     rw[hT] at hc
     have:=hc _ (List.mem_append_left _ a2) (n.2.2.1,true,k.srt,n.2.1) (by simp) rfl
     simp at this
  ·have hu:qKT (n,k)=none:=by unfold qKT;rw[if_neg e4,if_neg e5]
   rw[hu] at hT
   rw[qDA e5]
   exact .inr ⟨_,_,_,_,by rw[hT];simpa using hI,by omega,by omega,rfl⟩
theorem qLaa (hF:F.flat=t) (hw:F.wf=true) (hs:(0:Int)∉F.srt) (hz:F.size<=20000) (hP:P=info 0 F):∀ (m p:Nat) (vars:List (qBs×Vr)) (funcs:List (qBs×qBs×qCA)) (l0:List Vr) (m0:List (qBs×qCA)),p+m=F.size->
 NI (qTV F p) vars funcs->l0.length<=p->m0.length<=p->
 (¬ Cns (qLs F)/\∃ x,qPA qHF (some (t,P),([]:List Vr),([]:List (qBs×qCA)),false,vars,funcs,l0,m0,t,(t.length:Int),(p:Int),())=some (.ret,(some (t,P),([]:List Vr),([]:List (qBs×qCA)),false,x)))\/
 (Cns (qLs F)/\∃ x,qPA qHF (some (t,P),([]:List Vr),([]:List (qBs×qCA)),false,vars,funcs,l0,m0,t,(t.length:Int),(p:Int),())=some (.exit 0,(some (t,P),([]:List Vr),([]:List (qBs×qCA)),false,x))):=by
 have htl:t.length=F.size:=by rw[<-hF,qMC]
 intro m
 induction m with
 |zero=>
  intro p vars funcs l0 m0 hp hI _ _
  refine .inr ⟨?_,_,qUA (by unfold qHF;simp only;rw[qJA (by omega)]) (by simp)⟩
  have e:qTV F p=qLs F:=by unfold qTV qLs;rw[List.take_of_length_le (by rw[qVY];omega)]
  rw[<-e];exact hI.cns
 |succ m ih=>
  intro p vars funcs l0 m0 hp hI hl hm
  rcases qIaa hF hw hs hz hP (p:=p) (by omega) hI hl hm with ⟨h1,x,h2⟩ | ⟨vars',funcs',l',m',h1,h2,h3,h4⟩
  ·exact .inl ⟨fun hc=>h1 (hc.mono qAa),x,qUA h2 (by simp)⟩
  ·rw[qAB h4]
   exact ih (p+1) vars' funcs' l' m' (by omega) h1 h2 h3
theorem qUaa (hF:F.flat=t) (hw:F.wf=true) (hs:(0:Int)∉F.srt) (hz:F.size<=20000):(Cns (qLs F)/\∃ l m,qGO (some (t,info 0 F))=some ((l,m,true,()),()))\/(¬ Cns (qLs F)/\qGO (some (t,info 0 F))=some (([],[],false,()),())):=by
 unfold qGO
 simp only[Option.isSome_some,Option.getD_some]
 rw[qHV]
 rcases qLaa hF hw hs hz rfl F.size 0 [] [] [] [] (by omega) NI.nil (by simp) (by simp) with ⟨h1,x,h2⟩ | ⟨h1,x,h2⟩
 ·rw[show ((0:Nat):Int)=0 from rfl] at h2
  rw[h2]
  simp only[qAA,qQC,qNC,qOA,qVA]
  exact .inr ⟨h1,by first | rfl | trivial⟩
 ·rw[show ((0:Nat):Int)=0 from rfl] at h2
  rw[h2]
  simp only[qAA,qHB,qOA]
  exact .inl ⟨h1,_,_,rfl⟩
end
structure VT (t:List Nod) (F:Tf):Prop where
 flat:F.flat=t
 wf:F.wf=true
 srt:(0:Int)∉F.srt
 len:F.len=1
 size:F.size<=20000
 dep:F.dep<=257
 cns:Cns (qLs F)
theorem VT.one {t:List Nod} {F:Tf} (h:VT t F):∃ n k,F=cons n k nil:=by
 have:=h.len
 cases F with
 |nil=>simp[Tf.len] at this
 |cons n k r=>
  cases r with
  |nil=>exact ⟨n,k,rfl⟩
  |cons a b c=>simp only[Tf.len] at this;omega
theorem VT.bkp {t:List Nod} {F:Tf} (h:VT t F):bkp t=some F:=qVao.2 ⟨h.flat,h.wf,h.srt⟩
theorem VT.uniq {t:List Nod} {F G:Tf} (h:VT t F) (g:VT t G):F=G:=by
 have:=h.bkp;rw[g.bkp] at this;exact (Option.some.inj this).symm
theorem qCab {t:List Nod} (hs:qLS t):(∃ F,VT t F/\qCc t=some ((some (t,info 0 F),true,()),()))\/((¬ ∃ F,VT t F)/\qCc t=some ((none,false,()),())):=by
 unfold qCc
 by_cases h0:t.length=0
 ·rw[qFA (by omega)]
  refine .inr ⟨fun ⟨F,hF⟩=>?_,rfl⟩
  obtain ⟨n,k,e⟩:=hF.one
  have:=hF.flat
  rw[e] at this
  rw[<-this] at h0
  simp[Tf.flat] at h0
 rw[qDA (by omega)]
 by_cases h1:t.length > 20000
 ·rw[qGA (by omega)]
  refine .inr ⟨fun ⟨F,hF⟩=>?_,rfl⟩
  have:=hF.size
  have h2:=qMC F
  rw[hF.flat] at h2
  omega
 rw[qJA (by omega),qGai hs (by omega),qAA]
 cases hb:bkp t with
 |none=>exact .inr ⟨fun ⟨F,hF⟩=>(by rw[hF.bkp] at hb;cases hb),rfl⟩
 |some F=>
  obtain ⟨f1,f2,f3⟩:=qGg hb
  have hz:F.size<=20000:=by rw[<-qMC,f1];omega
  simp only
  by_cases hl:F.len=1
  ·rw[qZ10 hl]
   simp only[qY2,qVA]
   obtain ⟨n,k,e⟩:∃ n k,F=cons n k nil:=by
    cases F with
    |nil=>simp[Tf.len] at hl
    |cons n k r=>
     cases r with
     |nil=>exact ⟨n,k,rfl⟩
     |cons a b c=>simp only[Tf.len] at hl;omega
   have hlarge:qXQ (some (t,info 0 F))=some ((decide (F.dep > 257),()),()):=by
    unfold qXQ
    simp only[Option.isSome_some,Option.getD_some]
    rw[qHV,qJA (by omega),qHV,e]
    have hd:(cons n k nil).dep=k.dep+1:=by simp only[Tf.dep];omega
    have hg:((info 0 (cons n k nil)).getD (0:Int).toNat ((0:Int),(0:Int),(0:Int))).2.1=((k.dep+1:Nat):Int):=rfl
    rw[qEA,qBA (by omega),qBA (by rw[qVK];simp only[Tf.size];omega),hd]
    have e2:decide (((info 0 (cons n k nil)).getD (0:Int).toNat ((0:Int),(0:Int),(0:Int))).2.1 > 257)=decide (k.dep+1 > 257):=by rw[decide_eq_decide,hg];omega
    rw[e2]
   rw[hlarge,qAA]
   by_cases hd:F.dep > 257
   ·rw[qZ10 hd]
    refine .inr ⟨fun ⟨G,hG⟩=>?_,rfl⟩
    have:=hG.bkp
    rw[hb] at this
    cases this
    exact absurd hG.dep (by omega)
   rw[qZ9 hd]
   simp only[qVA]
   rcases qUaa f1 f2 f3 hz with ⟨c1,l,m,c2⟩ | ⟨c1,c2⟩
   ·rw[c2,qAA]
    exact .inl ⟨F,⟨f1,f2,f3,hl,hz,by omega,c1⟩,rfl⟩
   ·rw[c2,qAA]
    refine .inr ⟨fun ⟨G,hG⟩=>?_,rfl⟩
    have:=hG.bkp
    rw[hb] at this
    cases this
    exact c1 hG.cns
  ·rw[qZ9 hl]
   refine .inr ⟨fun ⟨G,hG⟩=>?_,rfl⟩
   have:=hG.bkp
   rw[hb] at this
   cases this
   exact hl hG.len
theorem qXy {t:List Nod} (hs:qLS t):∃ b,qVg t=some ((b,()),())/\(b=true ↔ ∃ F,VT t F):=by
 unfold qVg
 rcases qCab hs with ⟨F,h1,h2⟩ | ⟨h1,h2⟩
 ·rw[h2,qAA];exact ⟨_,rfl,fun _=>⟨F,h1⟩,fun _=>rfl⟩
 ·rw[h2,qAA];exact ⟨_,rfl,fun h=>(by cases h),fun h=>absurd h h1⟩
end Go.AM.Num
end
section
namespace Go.AM.Num
inductive SV where
 |b (x:Bool)
 |z (n:Int)
 |q (r:Rat)
 |a (d:Int) (P:KV)
def encS:SV->Val
 |.b x=>(1,x,[],[],[])
 |.z n=>(2,false,ti n,[],[])
 |.q r=>(3,false,txt r,[],[])
 |.a d P=>qCI d P
def qGF:SV->Int
 |.b _=>1
 |.z _=>2
 |.q _=>3
 |.a _ _=>4
def okS:SV->Prop
 |.a d P=>Canon d P
 |_=>True
def isT:SV->Bool
 |.b x=>x
 |_=>false
def qLO:SV->Rat
 |.z n=>(n:Rat)
 |.q r=>r
 |_=>0
def intV (v:SV):Int:=(qLO v).num
def qMq (s:Int) (r:Rat):SV:=if s=2 then .z r.num else .q r
def atS:SV->Int->Int
 |.a d P,i=>atP d P i
 |_,_=>0
def stS:SV->Int->Int->SV
 |.a d P,i,n=>.a d (stP d P i n)
 |v,_,_=>v
def sumQ (vs:List SV):Rat:=vs.foldl (fun s v=>s+qLO v) 0
noncomputable def qFe (n:Nod):Rat:=(rd (qQT n)).getD 0
open Classical in
noncomputable def opV (n:Nod) (vs:List SV):SV:=
 if nOp n=1\/nOp n=7 then .b (vs.all isT)
 else if nOp n=2\/nOp n=8 then .b (vs.any isT)
 else if nOp n=6 then .b (!isT (vs.getD 0 (.b false)))
 else if nOp n=9 then .b (!isT (vs.getD 0 (.b false))||isT (vs.getD 1 (.b false)))
 else if nOp n=10 then (if isT (vs.getD 0 (.b false))=true then vs.getD 1 (.b false) else vs.getD 2 (.b false))
 else if nOp n=11 then .b (decide (vs.getD 0 (.b false)=vs.getD 1 (.b false)))
 else if nOp n=12 then .b (decide (qLO (vs.getD 0 (.b false))<=qLO (vs.getD 1 (.b false))))
 else if nOp n=13 then .b (decide (qLO (vs.getD 0 (.b false)) < qLO (vs.getD 1 (.b false))))
 else if nOp n=3 then qMq (qGG n) (qFe n)
 else if nOp n=14 then qMq (qGF (vs.getD 0 (.b false))) (sumQ vs)
 else if nOp n=15 then qMq (qGF (vs.getD 0 (.b false))) (qLO (vs.getD 0 (.b false)) * qLO (vs.getD 1 (.b false)))
 else if nOp n=16 then .z (intV (vs.getD 0 (.b false)) / (qFe n).num)
 else if nOp n=17 then .z (intV (vs.getD 0 (.b false)) % (qFe n).num)
 else if nOp n=18 then .z (atS (vs.getD 0 (.b false)) (intV (vs.getD 1 (.b false))))
 else if nOp n=19 then stS (vs.getD 0 (.b false)) (intV (vs.getD 1 (.b false))) (intV (vs.getD 2 (.b false)))
 else .a (intV (vs.getD 0 (.b false))) []
theorem qFR (v:SV):(encS v).1=qGF v:=by cases v<;>rfl
theorem qKat {P Q:KV} (h1:ks P=ks Q) (h2:vs P=vs Q):P=Q:=by
 induction P generalizing Q with
 |nil=>cases Q with
  |nil=>rfl
  |cons q Q=>simp[ks] at h1
 |cons p P ih=>
  cases Q with
  |nil=>simp[ks] at h1
  |cons q Q=>
   simp only[ks,vs,List.map_cons,List.cons.injEq] at h1 h2
   rw[ih h1.2 h2.2,Prod.ext (qXk h1.1) (qXk h2.1)]
theorem qVai {v w:SV} (h:encS v=encS w):v=w:=by
 have hs:=congrArg Prod.fst h
 rw[qFR,qFR] at hs
 cases v<;>cases w<;>simp only[qGF] at hs<;>first | (exfalso;revert hs;decide) | skip
 ·simp only[encS,Prod.mk.injEq] at h;rw[h.2.1]
 ·simp only[encS,Prod.mk.injEq] at h;rw[qXk h.2.2.1]
 ·simp only[encS,Prod.mk.injEq] at h;rw[txt_inj h.2.2.1]
 ·simp only[encS,Prod.mk.injEq] at h;rw[qXk h.2.2.1,qKat h.2.2.2.1 h.2.2.2.2]
theorem qHc {v:Val}:qBQ v=true ↔ v.2.2.2.1=[]/\v.2.2.2.2=[]:=by
 unfold qBQ
 simp only[qY0,decide_eq_true_eq,List.length_eq_zero_iff]
theorem qGx {v:Val}:qNF v=true ↔ ∃ s,okS s/\v=encS s:=by
 constructor
 ·intro h
  by_cases h4:v.1=4
  ·obtain ⟨d,P,e,c⟩:=qZad h h4
   exact ⟨.a d P,c,e⟩
  obtain ⟨s,b,num,k,w⟩:=v
  simp only at h4
  unfold qNF at h
  simp only at h
  split at h
  ·rename_i h1
   subst h1
   simp only[qY0,qHc,beq_iff_eq] at h
   obtain ⟨rfl,rfl,rfl⟩:=h
   exact ⟨.b b,trivial,rfl⟩
  ·split at h
   ·rename_i h1
    subst h1
    simp only[qY0,qHc,Bool.not_eq_true'] at h
    obtain ⟨⟨rfl,h2⟩,rfl,rfl⟩:=h
    obtain ⟨z,rfl⟩:=qHaf h2
    exact ⟨.z z,trivial,rfl⟩
   ·split at h
    ·rename_i h1
     subst h1
     simp only[qY0,qHc,Bool.not_eq_true',Option.isSome_iff_exists] at h
     obtain ⟨⟨rfl,q,h2⟩,rfl,rfl⟩:=h
     have:=qLM h2
     subst this
     exact ⟨.q q,trivial,rfl⟩
    ·first | cases h | (rw[if_neg h4] at h;cases h)
 ·rintro ⟨s,h,rfl⟩
  cases s with
  |b x=>simp[encS,qNF,qBQ]
  |z n=>simp[encS,qNF,qBQ,qFa]
  |q r=>simp[encS,qNF,qBQ,qHK]
  |a d P=>exact qIh h
theorem qKae {s:SV} (h:okS s):qNF (encS s)=true:=qGx.2 ⟨s,h,rfl⟩
theorem qMl {s:Int} (h:s=2\/s=3) (r:Rat):qGF (qMq s r)=s:=by
 unfold qMq
 split
 ·rename_i e;rw[e];rfl
 ·rcases h with h | h
  ·contradiction
  ·rw[h];rfl
theorem qPu (s:Int) (r:Rat):okS (qMq s r):=by unfold qMq;split<;>trivial
theorem qGaq {n:Nod} {vs:List SV} {f:Int} (hn:qRC n=true) (h4:nOp n≠4) (h5:nOp n≠5) (hc:qXA (nOp n) vs.length=true) (hs:qDD n f (vs.map qGF)≠0) (hok:∀ v∈vs,okS v) :
 qGF (opV n vs)=qDD n f (vs.map qGF)/\okS (opV n vs):=by
 obtain ⟨o,s,nm,num,kd⟩:=n
 simp only[nOp] at h4 h5 hc
 have hall:∀ ws:List SV,(if ∀ s∈ws.map qGF,s=1 then (1:Int) else 0)≠0->(1:Int)=if ∀ s∈ws.map qGF,s=1 then (1:Int) else 0:=fun ws h=>by
  split at h<;>rename_i hh
  ·rw[if_pos hh]
  ·exact absurd rfl h
 unfold opV qDD at *
 simp only[nOp,qGG] at *
 by_cases e3:o=3
 ·subst e3
  simp at hs ⊢
  refine ⟨qMl ?_ _,qPu _ _⟩
  simp[qRC] at hn
  rcases hn.2 with h | h
  ·exact .inl h.1
  ·exact .inr h.1
 rw[if_neg (show ¬ (o=3\/o=4\/o=5) by omega)] at hs ⊢
 by_cases e1:o=1\/o=7
 ·rw[if_pos e1,if_pos (by omega)]
  rw[if_pos (by omega)] at hs
  exact ⟨hall vs hs,trivial⟩
 rw[if_neg e1]
 by_cases e2:o=2\/o=8
 ·rw[if_pos e2,if_pos (by omega)]
  rw[if_pos (by omega)] at hs
  exact ⟨hall vs hs,trivial⟩
 rw[if_neg e2]
 by_cases e6:o=6
 ·rw[if_pos e6,if_pos (by omega)]
  rw[if_pos (by omega)] at hs
  exact ⟨hall vs hs,trivial⟩
 rw[if_neg e6]
 by_cases e9:o=9
 ·rw[if_pos e9,if_pos (by omega)]
  rw[if_pos (by omega)] at hs
  exact ⟨hall vs hs,trivial⟩
 rw[if_neg e9]
 rw[if_neg (show ¬ (o=1\/o=2\/o=6\/o=7\/o=8\/o=9) by omega)] at hs ⊢
 by_cases e10:o=10
 ·subst e10
  rcases vs with _ | ⟨a,_ | ⟨b,_ | ⟨c,_ | ⟨d,l⟩⟩⟩⟩<;>simp[qXA] at hc
  ·simp at hs hok ⊢
   by_cases q:isT a=true
   ·rw[if_pos q,if_pos ⟨hs.1,hs.2.1⟩];exact ⟨rfl,hok.2.1⟩
   ·rw[if_neg q,if_pos ⟨hs.1,hs.2.1⟩];exact ⟨hs.2.1.symm,hok.2.2⟩
  ·omega
 rw[if_neg e10] at hs ⊢
 rw[if_neg e10]
 by_cases e11:o=11
 ·subst e11
  simp at hs ⊢
  rw[if_pos hs];exact ⟨rfl,trivial⟩
 rw[if_neg e11] at hs ⊢
 rw[if_neg e11]
 by_cases e12:o=12
 ·subst e12
  simp only[true_or,if_true] at hs ⊢
  split at hs<;>rename_i hh
  ·rw[if_pos hh];exact ⟨rfl,trivial⟩
  ·exact absurd rfl hs
 rw[if_neg e12]
 by_cases e13:o=13
 ·subst e13
  simp only[or_true,if_true] at hs ⊢
  split at hs<;>rename_i hh
  ·rw[if_pos hh];exact ⟨rfl,trivial⟩
  ·exact absurd rfl hs
 rw[if_neg e13,if_neg e3]
 rw[if_neg (show ¬ (o=12\/o=13) by omega)] at hs ⊢
 by_cases e14:o=14
 ·subst e14
  rcases vs with _ | ⟨a,l⟩<;>simp[qXA] at hc
  simp only[if_true,List.map_cons,qZ3] at hs ⊢
  split at hs<;>rename_i hh
  ·rw[if_pos hh];exact ⟨qMl hh.1 _,qPu _ _⟩
  ·exact absurd rfl hs
 rw[if_neg e14] at hs ⊢
 rw[if_neg e14]
 by_cases e15:o=15
 ·subst e15
  rcases vs with _ | ⟨a,l⟩<;>simp[qXA] at hc
  simp only[if_true,List.map_cons,qZ3] at hs ⊢
  split at hs<;>rename_i hh
  ·rw[if_pos hh];exact ⟨qMl hh.2.1 _,qPu _ _⟩
  ·exact absurd rfl hs
 rw[if_neg e15] at hs ⊢
 rw[if_neg e15]
 by_cases e16:o=16
 ·rw[if_pos e16,if_pos (.inl e16)]
  rw[if_pos (.inl e16)] at hs
  split at hs<;>rename_i hh
  ·rw[if_pos hh];exact ⟨rfl,trivial⟩
  ·exact absurd rfl hs
 rw[if_neg e16]
 by_cases e17:o=17
 ·rw[if_pos e17,if_pos (.inr e17)]
  rw[if_pos (.inr e17)] at hs
  split at hs<;>rename_i hh
  ·rw[if_pos hh];exact ⟨rfl,trivial⟩
  ·exact absurd rfl hs
 rw[if_neg e17]
 rw[if_neg (show ¬ (o=16\/o=17) by omega)] at hs ⊢
 by_cases e18:o=18
 ·rw[if_pos e18] at hs ⊢
  rw[if_pos e18]
  split at hs<;>rename_i hh
  ·rw[if_pos hh];exact ⟨rfl,trivial⟩
  ·exact absurd rfl hs
 rw[if_neg e18] at hs ⊢
 rw[if_neg e18]
 by_cases e19:o=19
 ·subst e19
  rcases vs with _ | ⟨a,_ | ⟨b,_ | ⟨c,_ | ⟨d,l⟩⟩⟩⟩<;>simp[qXA] at hc
  ·simp at hs hok ⊢
   rw[if_pos hs]
   cases a with
   |a d P=>exact ⟨rfl,qAq hok.1 _ _⟩
   |b x=>simp[qGF] at hs
   |z x=>simp[qGF] at hs
   |q x=>simp[qGF] at hs
  ·omega
 rw[if_neg e19] at hs ⊢
 rw[if_neg e19]
 split at hs<;>rename_i hh
 ·rw[if_pos hh]
  split at hs<;>rename_i h2
  ·rw[if_pos h2];exact ⟨rfl,qLi _⟩
  ·exact absurd rfl hs
 ·exact absurd rfl hs
structure Ht (m:Nat) (r:Rat):Prop where
 num:(dd r.num.natAbs).length<=m
 den:(dd r.den).length<=m
theorem Ht.mono {m k:Nat} {r:Rat} (h:Ht m r) (hk:m<=k):Ht k r:=⟨by have:=h.num;omega,by have:=h.den;omega⟩
theorem Ht.D {m:Nat} {r:Rat} (h:Ht m r):D r<=2 * m:=by have:=h.num;have:=h.den;unfold Num.D;omega
theorem qXs {m:Nat} {r:Rat} (h:D r<=m):Ht m r:=by unfold Num.D at h;exact ⟨by omega,by omega⟩
theorem qVau {n:Int} {d m:Nat} (hd:d≠0) (h1:(dd n.natAbs).length<=m) (h2:(dd d).length<=m):Ht m (mkRat n d):=by
 have e1:(n / (d.gcd n.natAbs:Nat)).natAbs<=n.natAbs:=by
  obtain ⟨k,hk⟩:((d.gcd n.natAbs:Nat):Int) ∣ n:=by
   have:=Nat.gcd_dvd_right d n.natAbs
   exact Int.ofNat_dvd_left.2 this
  have hg:((d.gcd n.natAbs:Nat):Int)≠0:=fun e=>hd (Nat.gcd_eq_zero_iff.1 (by exact_mod_cast e)).1
  have e1:n / (d.gcd n.natAbs:Nat)=k:=by
   conv=>lhs;lhs;rw[hk]
   exact Int.mul_ediv_cancel_left _ hg
  rw[e1]
  conv=>rhs;rw[hk,Int.natAbs_mul]
  exact Nat.le_mul_of_pos_left _ (by omega)
 have e2:=Nat.div_le_self d (d.gcd n.natAbs)
 have:=qCB e1
 have:=qCB e2
 refine ⟨?_,?_⟩
 ·rw[Rat.num_mkRat,if_neg hd];omega
 ·rw[Rat.den_mkRat,if_neg hd];omega
theorem qTad {m k:Nat} {p q:Rat} (hp:Ht m p) (hq:Ht k q):Ht (m+k+1) (p+q):=by
 rw[Rat.add_def']
 have h1:=qCB (qLZ (p.num * q.den) (q.num * p.den))
 have h2:=qKP (p.num * q.den).natAbs (q.num * p.den).natAbs
 rw[Int.natAbs_mul,Int.natAbs_mul,Int.natAbs_natCast,Int.natAbs_natCast] at h1 h2
 have h3:=qBC p.num.natAbs q.den
 have h4:=qBC q.num.natAbs p.den
 have h5:=qBC p.den q.den
 have:=hp.num;have:=hp.den;have:=hq.num;have:=hq.den
 exact qVau (Nat.mul_ne_zero p.den_nz q.den_nz) (by omega) (by omega)
theorem qCau {m k:Nat} {p q:Rat} (hp:Ht m p) (hq:Ht k q):Ht (m+k) (p * q):=by
 rw[Rat.mul_def']
 have h1:=qBC p.num.natAbs q.num.natAbs
 have h5:=qBC p.den q.den
 have:=hp.num;have:=hp.den;have:=hq.num;have:=hq.den
 exact qVau (Nat.mul_ne_zero p.den_nz q.den_nz) (by rw[Int.natAbs_mul];omega) (by omega)
theorem qWT {m:Nat} {n:Int} (h:(dd n.natAbs).length<=m):Ht m (n:Rat):=by
 refine ⟨by rw[Rat.num_intCast];exact h,?_⟩
 rw[Rat.den_intCast,qTN]
 have:=qLP n.natAbs
 simp;omega
theorem qDg {m:Nat} {r:Rat} (h:Ht m r):Ht m ((r.num:Int):Rat):=qWT h.num
theorem qAan {m:Nat} {x y:Int} (h:Ht m (x:Rat)) (hy:y.natAbs<=x.natAbs):Ht m (y:Rat):=by
 have:=h.num
 rw[Rat.num_intCast] at this
 exact qWT (by have:=qCB hy;omega)
def Bdd (B:Nat):SV->Prop
 |.b _=>True
 |.z n=>Ht B (n:Rat)
 |.q r=>Ht B r
 |.a d P=>Ht B (d:Rat)/\(∀ p∈P,Ht B (p.1:Rat)/\Ht B (p.2:Rat))/\P.length<=B
theorem Bdd.mono {B C:Nat} {v:SV} (h:Bdd B v) (hc:B<=C):Bdd C v:=by
 cases v with
 |b _=>trivial
 |z n=>exact Ht.mono h hc
 |q r=>exact Ht.mono h hc
 |a d P=>
  obtain ⟨h1,h2,h3⟩:=h
  exact ⟨h1.mono hc,fun p hp=>⟨(h2 p hp).1.mono hc,(h2 p hp).2.mono hc⟩,by omega⟩
theorem qNM {B:Nat} {v:SV} (h:Bdd B v) (hB:1<=B):Ht B (qLO v):=by
 have h0:Ht B ((0:Int):Rat):=qWT (by simp[qFD];exact hB)
 cases v with
 |b _=>exact h0
 |z n=>exact h
 |q r=>exact h
 |a d P=>exact h0
theorem qHX {B:Nat} {v:SV} (h:Bdd B v) (hB:1<=B):Ht B ((intV v:Int):Rat):=qDg (qNM h hB)
def Hs:List SV->Nat->Prop
 |[],_=>True
 |v::vs,B=>∃ b c,1<=b/\Bdd b v/\Hs vs c/\b+1+c<=B
theorem Hs.mono {vs:List SV} {B C:Nat} (h:Hs vs B) (hc:B<=C):Hs vs C:=by
 cases vs with
 |nil=>trivial
 |cons v vs=>obtain ⟨b,c,h1,h2,h3,h4⟩:=h;exact ⟨b,c,h1,h2,h3,by omega⟩
theorem Hs.mem:∀ {vs:List SV} {B:Nat},Hs vs B->∀ v∈vs,Bdd B v:=by
 intro vs
 induction vs with
 |nil=>intro B _ v hv;cases hv
 |cons w vs ih=>
  intro B h v hv
  obtain ⟨b,c,h1,h2,h3,h4⟩:=h
  rcases List.mem_cons.1 hv with rfl | hv
  ·exact h2.mono (by omega)
  ·exact (ih h3 v hv).mono (by omega)
theorem Hs.sum:∀ {vs:List SV} {a B:Nat} {r:Rat},Ht a r->Hs vs B->Ht (a+B) (vs.foldl (fun s v=>s+qLO v) r):=by
 intro vs
 induction vs with
 |nil=>intro a B r h _;exact h.mono (by omega)
 |cons w vs ih=>
  intro a B r h hs
  obtain ⟨b,c,h1,h2,h3,h4⟩:=hs
  exact (ih (qTad h (qNM h2 h1)) h3).mono (by omega)
theorem Hs.get {vs:List SV} {B:Nat} (h:Hs vs B) (i:Nat):Bdd B (vs.getD i (.b false)):=by
 rw[qZ4]
 cases hi:vs[i]? with
 |none=>trivial
 |some v=>exact h.mem v (qY14 hi)
theorem qWaj (i:Int):∀ P:KV,(lo i P).length+(hi i P).length<=P.length:=by
 intro P
 induction P with
 |nil=>simp[lo,hi]
 |cons p P ih=>
  simp only[lo,hi] at ih
  simp only[lo,hi,List.filter_cons]
  by_cases h1:p.1 < i
  ·rw[if_pos (qZ10 h1),if_neg (by simp;omega)];simp;omega
  ·rw[if_neg (by simp;omega)]
   split<;>simp<;>omega
theorem qLr {B:Nat} {r:Rat} (s:Int) (h:Ht B r):Bdd B (qMq s r):=by unfold qMq;split;exact qDg h;exact h
theorem qWau {n:Nod} {vs:List SV} {B:Nat} (hB:Hs vs B) (hn:Ht 75 (qFe n)):Bdd (B+79) (opV n vs):=by
 have g:=hB.get
 have gi:∀ i,Ht (B+1) ((intV (vs.getD i (.b false)):Int):Rat):=fun i=>qHX ((g i).mono (by omega)) (by omega)
 have gv:∀ i,Ht (B+1) (qLO (vs.getD i (.b false))):=fun i=>qNM ((g i).mono (by omega)) (by omega)
 unfold opV
 by_cases c0:nOp n=1\/nOp n=7
 ·rw[if_pos c0];trivial
 rw[if_neg c0]
 by_cases c1:nOp n=2\/nOp n=8
 ·rw[if_pos c1];trivial
 rw[if_neg c1]
 by_cases c2:nOp n=6
 ·rw[if_pos c2];trivial
 rw[if_neg c2]
 by_cases c3:nOp n=9
 ·rw[if_pos c3];trivial
 rw[if_neg c3]
 by_cases c4:nOp n=10
 ·rw[if_pos c4]
  split<;>exact (g _).mono (by omega)
 rw[if_neg c4]
 by_cases c5:nOp n=11
 ·rw[if_pos c5];trivial
 rw[if_neg c5]
 by_cases c6:nOp n=12
 ·rw[if_pos c6];trivial
 rw[if_neg c6]
 by_cases c7:nOp n=13
 ·rw[if_pos c7];trivial
 rw[if_neg c7]
 by_cases c8:nOp n=3
 ·rw[if_pos c8];exact qLr _ (hn.mono (by omega))
 rw[if_neg c8]
 by_cases c9:nOp n=14
 ·rw[if_pos c9]
  have h0:Ht 1 (0:Rat):=qWT (n:=0) (by simp[qFD])
  exact qLr _ ((hB.sum h0).mono (by omega))
 rw[if_neg c9]
 by_cases c10:nOp n=15
 ·rw[if_pos c10]
  refine qLr _ ?_
  rcases vs with _ | ⟨a,_ | ⟨b,l⟩⟩
  ·simp only[List.getD_nil,qLO]
   rw[Rat.zero_mul]
   exact qWT (n:=0) (by simp[qFD])
  ·simp only[qZ2,List.getD_nil,qLO]
   rw[Rat.mul_zero]
   exact qWT (n:=0) (by simp[qFD])
  ·obtain ⟨x,c,h1,h2,⟨y,c2,h5,h6,h7,h8⟩,h4⟩:=hB
   simp only[qZ2,qZ3]
   exact (qCau (qNM h2 h1) (qNM h6 h5)).mono (by omega)
 rw[if_neg c10]
 by_cases c11:nOp n=16
 ·rw[if_pos c11]
  have:(intV (vs.getD 0 (.b false)) / (qFe n).num).natAbs<=(intV (vs.getD 0 (.b false))).natAbs:=by
   have h:=Int.natAbs_ediv_le_natAbs (intV (vs.getD 0 (.b false))) (qFe n).num
   exact h
  exact (qAan (gi 0) this).mono (by omega)
 rw[if_neg c11]
 by_cases c12:nOp n=17
 ·rw[if_pos c12]
  by_cases hz:(qFe n).num=0
  ·rw[hz,Int.emod_zero];exact (gi 0).mono (by omega)
  ·have:(intV (vs.getD 0 (.b false)) % (qFe n).num).natAbs<=(qFe n).num.natAbs:=by
    have h1:=Int.emod_nonneg (intV (vs.getD 0 (.b false))) hz
    have h2:=Int.emod_lt (intV (vs.getD 0 (.b false))) hz
    omega
   exact (qAan (qDg hn) this).mono (by omega)
 rw[if_neg c12]
 by_cases c13:nOp n=18
 ·rw[if_pos c13]
  have ga:=g 0
  generalize vs.getD 0 (.b false)=v at ga
  cases v with
  |a d P=>
   obtain ⟨h1,h2,h3⟩:=ga
   have:atP d P (intV (vs.getD 1 (.b false)))=d\/∃ p∈P,atP d P (intV (vs.getD 1 (.b false)))=p.2:=by
    unfold atP
    cases hf:P.find? fun p=>decide (p.1=intV (vs.getD 1 (.b false))) with
    |none=>exact .inl rfl
    |some p=>exact .inr ⟨p,List.mem_of_find?_eq_some hf,rfl⟩
   simp only[atS]
   rcases this with e | ⟨p,hp,e⟩
   ·rw[e];exact h1.mono (by omega)
   ·rw[e];exact (h2 p hp).2.mono (by omega)
  |b _=>exact qWT (n:=0) (by simp[qFD])
  |z _=>exact qWT (n:=0) (by simp[qFD])
  |q _=>exact qWT (n:=0) (by simp[qFD])
 rw[if_neg c13]
 by_cases c14:nOp n=19
 ·rw[if_pos c14]
  have ga:=g 0
  generalize vs.getD 0 (.b false)=v at ga
  cases v with
  |a d P=>
   obtain ⟨h1,h2,h3⟩:=ga
   simp only[stS]
   refine ⟨h1.mono (by omega),fun p hp=>?_,?_⟩
   ·unfold stP at hp
    rcases List.mem_append.1 hp with hp | hp
    ·rcases List.mem_append.1 hp with hp | hp
     ·have:=h2 p (qSj.1 hp).1;exact ⟨this.1.mono (by omega),this.2.mono (by omega)⟩
     ·split at hp
      ·cases hp
      ·rw[List.mem_singleton.1 hp];exact ⟨(gi 1).mono (by omega),(gi 2).mono (by omega)⟩
    ·have:=h2 p (qLq.1 hp).1;exact ⟨this.1.mono (by omega),this.2.mono (by omega)⟩
   ·have e:=qWaj (intV (vs.getD 1 (.b false))) P
    unfold stP
    simp only[qZ6]
    split<;>simp only[List.length_nil,qY11]<;>omega
  |b _=>trivial
  |z _=>exact Ht.mono ga (by omega)
  |q _=>exact Ht.mono ga (by omega)
 rw[if_neg c14]
 ·exact ⟨(gi 0).mono (by omega),fun p hp=>absurd hp qY16,Nat.zero_le _⟩
end Go.AM.Num
end
section
namespace Go.AM.Num
open Tf
noncomputable def evN (A:qBs->Option SV) (G:Nod->List SV->Int ⊕ SV) (n:Nod) (vs:List SV):Int ⊕ SV:=
 if nOp n=4 then (match A (qCP n) with | none=>.inl 7 | some v=>if qGF v=qGG n then .inr v else .inl 3)
 else if nOp n=5 then G n vs
 else .inr (opV n vs)
noncomputable def evF (A:qBs->Option SV) (G:Nod->List SV->Int ⊕ SV):Tf->Int ⊕ List SV
 |.nil=>.inr []
 |.cons n k r=>match evF A G k with
  |.inl e=>.inl e
  |.inr vs=>match evN A G n vs with
   |.inl e=>.inl e
   |.inr v=>match evF A G r with
    |.inl e=>.inl e
    |.inr ws=>.inr (v::ws)
structure EA (A:qBs->Option SV) (G:Nod->List SV->Int ⊕ SV):Prop where
 ok:∀ nm v,A nm=some v->okS v/\Bdd 75 v
 fn:∀ n vs v,G n vs=.inr v->okS v/\Bdd 75 v/\qGF v=qGG n
 er:∀ n vs e,G n vs=.inl e->e≠0
def qPT (f:Tf):Prop:=∀ n∈f.flat,(qQT n).length<=73
theorem qIt {n:Nod} (h:(qQT n).length<=73):Ht 75 (qFe n):=by
 unfold qFe
 cases hr:rd (qQT n) with
 |none=>exact qWT (n:=0) (by simp[qFD])
 |some q=>
  have e:=qLM hr
  have:=D_le q
  rw[<-e] at this
  exact qXs (r:=q) (by omega)
theorem qFV {n:Nod}:okN n=true ↔ qRC n=true/\qXA (nOp n) (qPF n)=true:=by unfold okN;rw[qY0]
theorem qWB {A:qBs->Option SV} {G:Nod->List SV->Int ⊕ SV} (hE:EA A G):∀ (F:Tf),F.wf=true->(0:Int)∉F.srt->qPT F->∀ vs,evF A G F=.inr vs->vs.map qGF=F.srt/\(∀ v∈vs,okS v)/\Hs vs (80 * F.size):=by
 intro F
 induction F with
 |nil=>
  intro _ _ _ vs h
  simp only[evF,Sum.inr.injEq] at h
  subst h
  exact ⟨rfl,fun v hv=>(by cases hv),trivial⟩
 |cons n k r ik ir=>
  intro hw hs hn vs h
  obtain ⟨w1,w2,w3,w4⟩:=qWH.1 hw
  obtain ⟨s1,s2,s3⟩:=qVI.1 hs
  have hnk:qPT k:=fun m hm=>hn m (by simp only[flat,qY12,qZ7];exact .inr (.inl hm))
  have hnr:qPT r:=fun m hm=>hn m (by simp only[flat,qY12,qZ7];exact .inr (.inr hm))
  have hnn:=qIt (hn n (by simp[flat]))
  simp only[evF] at h
  split at h
  ·cases h
  rename_i ks hk
  obtain ⟨k1,k2,k3⟩:=ik w3 s1 hnk _ hk
  split at h
  ·cases h
  rename_i v hv
  split at h
  ·cases h
  rename_i ws hr
  obtain ⟨r1,r2,r3⟩:=ir w4 s3 hnr _ hr
  simp only[Sum.inr.injEq] at h
  subst h
  have key:qGF v=qDD n (op1 k) k.srt/\okS v/\Bdd (80 * k.size+79) v:=by
   unfold evN at hv
   split at hv
   ·rename_i h4
    split at hv
    ·cases hv
    rename_i u hu
    split at hv
    ·rename_i e
     simp only[Sum.inr.injEq] at hv
     subst hv
     obtain ⟨a1,a2⟩:=hE.ok _ _ hu
     exact ⟨by rw[e];unfold qDD;rw[if_pos (by omega)],a1,a2.mono (by omega)⟩
    ·cases hv
   ·rename_i h4
    split at hv
    ·rename_i h5
     obtain ⟨a1,a2,a3⟩:=hE.fn _ _ _ hv
     exact ⟨by rw[a3];unfold qDD;rw[if_pos (by omega)],a1,a2.mono (by omega)⟩
    ·rename_i h5
     simp only[Sum.inr.injEq] at hv
     subst hv
     obtain ⟨f1,f2⟩:=qFV.1 w1
     have hl:(ks.length:Int)=qPF n:=by
      have:=congrArg List.length k1
      rw[List.length_map,qKM] at this
      omega
     obtain ⟨a1,a2⟩:=qGaq (f:=op1 k) f1 h4 h5 (by rw[hl];exact f2) (by rw[k1];exact s2) k2
     rw[k1] at a1
     exact ⟨a1,a2,qWau k3 hnn⟩
  obtain ⟨q1,q2,q3⟩:=key
  refine ⟨?_,?_,?_⟩
  ·simp only[List.map_cons,srt,r1,q1]
   rw[if_neg s1]
  ·intro u hu
   rcases List.mem_cons.1 hu with rfl | hu
   ·exact q2
   ·exact r2 u hu
  ·exact ⟨80 * k.size+79,80 * r.size,by omega,q3,r3,by simp only[size];omega⟩
theorem qKaf {vs:List SV} {i:Nat} (h:i < vs.length):(vs.map encS).getD i qND=encS (vs.getD i (.b false)):=by
 simp[qZ4,h]
theorem qCM (v:SV):(encS v).2.1=isT v:=by cases v<;>rfl
theorem qUL {v:SV} (h:qGF v=2\/qGF v=3):(encS v).2.2.1=txt (qLO v):=by
 cases v with
 |z n=>rfl
 |q r=>rfl
 |b x=>simp[qGF] at h
 |a d P=>simp[qGF] at h
theorem qCJ {v:SV} (h:qGF v=2):v=.z (intV v)/\(encS v).2.2.1=ti (intV v)/\qLO v=(intV v:Rat):=by
 cases v with
 |z n=>
  have e:intV (.z n)=n:=by unfold intV qLO;exact Rat.num_intCast n
  rw[e];exact ⟨rfl,rfl,rfl⟩
 |q r=>simp[qGF] at h
 |b x=>simp[qGF] at h
 |a d P=>simp[qGF] at h
theorem qCm {v:SV} (h:qGF v=4):∃ d P,v=.a d P:=by
 cases v with
 |z n=>simp[qGF] at h
 |q r=>simp[qGF] at h
 |b x=>simp[qGF] at h
 |a d P=>exact ⟨d,P,rfl⟩
theorem qBW {s:Int} {r:Rat} (hs:s=2\/s=3) (h:s=2->r.den=1):encS (qMq s r)=(s,false,txt r,[],[]):=by
 unfold qMq
 split
 ·rename_i e
  have:=qJl (h e)
  rw[e]
  simp only[encS,ti]
  rw[<-this]
 ·have:s=3:=by omega
  rw[this];rfl
theorem qZah {α:Type} (p:α->Bool) (l:List α):(l.all fun x=>!p x)=!l.any p:=by
 induction l with
 |nil=>rfl
 |cons a l ih=>simp only[List.all_cons,List.any_cons,ih,Bool.not_or]
theorem qEa {st:(List Val)×Unit×Int×Int×Int×Unit->Option (Ex×((List Val)×Unit×Int×Int×Int×Unit))} {l:List Val} {p:Val->Bool} (hl:l.length<=1000000000)
 (hg:∀ k,k < l.length->st (l,(),0,(l.length:Int),(k:Int),())=some (if p (l.getD k qND) then (.ret,(l,(),(k:Int),(l.length:Int),(k:Int),())) else (.normal,(l,(),0,(l.length:Int),((k+1:Nat):Int),()))))
 (he:st (l,(),0,(l.length:Int),(l.length:Int),())=some (.exit 0,(l,(),0,(l.length:Int),(l.length:Int),()))) :
 (l.any p=false/\qPA st (l,(),0,(l.length:Int),0,())=some (.exit 0,(l,(),0,(l.length:Int),(l.length:Int),())))\/(l.any p=true/\∃ k:Nat,qPA st (l,(),0,(l.length:Int),0,())=some (.ret,(l,(),(k:Int),(l.length:Int),(k:Int),()))):=by
 have key:=qOG (step:=st) (fun k=>(l,(),(0:Int),(l.length:Int),(k:Int),())) (fun k=>(l,(),(k:Int),(l.length:Int),(k:Int),())) l.length (E:=.exit 0) (B:=.ret) (by simp) (by simp) (fun k=>!p (l.getD k qND)) (fun k hk=>by
  rw[hg k hk]
  cases p (l.getD k qND)<;>rfl) he
 rw[qHM l qND (fun x=>!p x)] at key
 rw[qZah] at key
 rcases key with ⟨k1,k2⟩ | ⟨k1,k,k2⟩
 ·exact .inl ⟨by simpa using k1,k2⟩
 ·exact .inr ⟨by simpa using k1,k,k2⟩
theorem qJo {l:List Val} (hl:l.length<=1000000000):qGB l ()=some ((l.any fun v=>!v.2.1,()),()):=by
 have key:=qEa (st:=qIB) (p:=fun v=>!v.2.1) hl (fun k hk=>by
  unfold qIB
  simp only
  rw[qGA (by omega),qEA,qBA (by omega),qBA (by omega),qZ0,w64 (by omega)]
  unfold qHr
  rw[qAA]
  cases (l.getD k qND).2.1<;>rfl) (by
  unfold qIB
  simp only
  rw[qJA (by omega)])
 unfold qGB qUD
 rcases key with ⟨k1,k2⟩ | ⟨k1,k,k2⟩
 ·rw[k2,k1];rfl
 ·rw[k2,k1]
  simp only[qAA,qQC,qNC,qOA,qVA]
  rw[qZ10 (by omega)]
theorem qGt {l:List Val} (hl:l.length<=1000000000):qKB l ()=some ((l.any fun v=>v.2.1,()),()):=by
 have key:=qEa (st:=qJB) (p:=fun v=>v.2.1) hl (fun k hk=>by
  unfold qJB
  simp only
  rw[qGA (by omega),qEA,qBA (by omega),qBA (by omega),qZ0,w64 (by omega)]
  unfold v_is
  rw[qAA]
  cases (l.getD k qND).2.1<;>rfl) (by
  unfold qJB
  simp only
  rw[qJA (by omega)])
 unfold qKB qCE
 rcases key with ⟨k1,k2⟩ | ⟨k1,k,k2⟩
 ·rw[k2,k1];rfl
 ·rw[k2,k1]
  simp only[qAA,qQC,qNC,qOA,qVA]
  rw[qZ10 (by omega)]
theorem qCap (vs:List SV):((vs.map encS).any fun v=>!v.2.1)=!vs.all isT:=by
 induction vs with
 |nil=>rfl
 |cons v vs ih=>simp only[List.map_cons,List.any_cons,List.all_cons,ih,qCM,Bool.not_and]
theorem qBat (vs:List SV):((vs.map encS).any fun v=>v.2.1)=vs.any isT:=by
 induction vs with
 |nil=>rfl
 |cons v vs ih=>simp only[List.map_cons,List.any_cons,ih,qCM]
theorem qLal (l1:List Val) (t4:Val) (L:List SV) (hL:L.length<=100000):∀ (vs pre:List SV) (a B:Nat) (r:Rat),L=pre++vs->(∀ v∈vs,qGF v=2\/qGF v=3)->Ht a r->Hs vs B->a+B<=400000->
 qPA qON (l1,t4,txt r,L.map encS,(L.length:Int),(pre.length:Int),())=some (.exit 1,(l1,t4,txt (vs.foldl (fun s v=>s+qLO v) r),L.map encS,(L.length:Int),(L.length:Int),())):=by
 intro vs
 induction vs with
 |nil=>
  intro pre a B r hL' _ _ _ _
  have:pre.length=L.length:=by rw[hL'];simp
  refine qUA ?_ (by simp)
  unfold qON
  simp only
  rw[qJA (by omega),this]
  rfl
 |cons w vs ih=>
  intro pre a B r hL' hs hr hB hab
  obtain ⟨b,c,h1,h2,h3,h4⟩:=hB
  have hlen:L.length=pre.length+(vs.length+1):=by rw[hL'];simp
  have hg:(L.map encS).getD pre.length qND=encS w:=by
   rw[qKaf (by omega),hL'];simp[qZ4]
  have hw:=qNM h2 h1
  rw[qAB (y:=(l1,t4,txt (r+qLO w),L.map encS,(L.length:Int),((pre++[w]).length:Int),())) (by
   unfold qON
   simp only
   rw[qGA (by omega),qEA,qBA (by omega),qBA (by rw[List.length_map];omega),qZ0,hg,qUL (hs w (by simp)),qOaw (by have:=hr.D;omega) (by have:=hw.D;omega),qAA,w64 (by omega)]
   simp)]
  rw[ih (pre++[w]) (a+b+1) c (r+qLO w) (by rw[hL'];simp) (fun v hv=>hs v (by simp[hv])) (qTad hr hw) h3 (by omega)]
  rfl
theorem qDan (p q:Rat):(p - q).num.sign<=0 ↔ p<=q:=by
 have h1:(p - q).num.sign<=0 ↔ 0<=(-(p - q)).num:=by
  rw[Rat.neg_num]
  rcases Int.lt_trichotomy (p - q).num 0 with h | h | h
  ·rw[Int.sign_eq_neg_one_of_neg h];omega
  ·rw[h];simp
  ·rw[Int.sign_eq_one_of_pos h];omega
 rw[h1,Rat.num_nonneg]
 grind
theorem qQam (p q:Rat):(p - q).num.sign < 0 ↔ p < q:=by
 have h1:(p - q).num.sign < 0 ↔ ¬ 0<=(p - q).num:=by
  rw[qBu];omega
 rw[h1,Rat.num_nonneg]
 grind
theorem qWd {m:Nat} {z:Int} (h:Ht m (z:Rat)):(ti z).length<=m+1:=by
 have h1:=h.num
 rw[Rat.num_intCast] at h1
 have:=qKc (n:=z)
 unfold ti;omega
theorem qUal {B:Nat} {d:Int} {P:KV} (h:Bdd B (.a d P)) (hB:B<=99999):Sm 100000 d P:=by
 obtain ⟨h1,h2,h3⟩:=h
 exact ⟨by have:=qWd h1;omega,fun p hp=>⟨by have:=qWd (h2 p hp).1;omega,by have:=qWd (h2 p hp).2;omega⟩,by omega⟩
theorem qRag:∀ (vs:List SV) (r:Rat),r.den=1->(∀ v∈vs,qGF v=2)->(vs.foldl (fun s v=>s+qLO v) r).den=1:=by
 intro vs
 induction vs with
 |nil=>intro r h _;exact h
 |cons v vs ih=>
  intro r h hv
  refine ih _ ?_ fun w hw=>hv w (by simp[hw])
  show (r+qLO v).den=1
  rw[qJl h,(qCJ (hv v (by simp))).2.2,<-Rat.intCast_add,Rat.den_intCast]
theorem qEn {n:Nod} (hf:qRC n=true) (ho:nOp n=16\/nOp n=17):∃ m:Int,0 < m/\qQT n=txt (m:Rat)/\(qFe n).num=m:=by
 unfold qRC at hf
 rw[if_neg (by omega),if_neg (by omega),if_pos ho] at hf
 simp only[qY0,decide_eq_true_eq] at hf
 obtain ⟨⟨_,h1⟩,h2⟩:=hf
 obtain ⟨m,h3,h4⟩:=qJJ h1
 refine ⟨m,?_,h3,by unfold qFe;rw[h4];exact Rat.num_intCast m⟩
 unfold qNT at h2
 rw[h4] at h2
 simp only[Rat.num_intCast] at h2
 rcases Int.lt_trichotomy m 0 with h | h | h
 ·rw[Int.sign_eq_neg_one_of_neg h] at h2;omega
 ·rw[h] at h2;simp at h2
 ·exact h
theorem qKt {n:Nod} (hf:qRC n=true) (ho:nOp n=3):(qGG n=2\/qGG n=3)/\qQT n=txt (qFe n)/\(qGG n=2->(qFe n).den=1):=by
 unfold qRC at hf
 rw[if_pos ho] at hf
 simp only[qY0,Bool.or_eq_true,decide_eq_true_eq] at hf
 unfold qFe
 rcases hf.2 with ⟨h1,h2⟩ | ⟨h1,h2⟩
 ·obtain ⟨m,h3,h4⟩:=qJJ h2
  rw[h4]
  exact ⟨.inl h1,h3,fun _=>Rat.den_intCast m⟩
 ·obtain ⟨q,h3⟩:=Option.isSome_iff_exists.1 h2
  rw[h3]
  exact ⟨.inr h1,qLM h3,fun e=>by omega⟩
theorem i0:(0:Int).toNat=0:=rfl
theorem i1:(1:Int).toNat=1:=rfl
theorem i2:(2:Int).toNat=2:=rfl
theorem qXp {n:Nod} {vs:List SV} {B:Nat} {f:Int} (hn:qRC n=true) (h4:nOp n≠4) (h5:nOp n≠5) (hbig:nOp n=3\/14<=nOp n) (hc:qXA (nOp n) vs.length=true) (hs:qDD n f (vs.map qGF)≠0)
 (hok:∀ v∈vs,okS v) (hB:Hs vs B) (hB9:B<=90000) (hnn:Ht 75 (qFe n)) (hl:vs.length<=100000):qFb n (vs.map encS)=some ((encS (opV n vs),()),()):=by
 have hop:1<=nOp n/\nOp n<=20:=by
  unfold qRC at hn
  split at hn
  ·omega
  ·split at hn
   ·omega
   ·split at hn
    ·omega
    ·simp only[qY0,decide_eq_true_eq] at hn
     exact hn.1.1.1
 unfold qFb
 have hO:n.1=nOp n:=rfl
 have hN:n.2.2.2.1=qQT n:=rfl
 have hS:n.2.1=qGG n:=rfl
 rw[hO,hN,hS]
 by_cases e3:nOp n=3
 ·rw[qFA e3]
  obtain ⟨a1,a2,a3⟩:=qKt hn e3
  have:opV n vs=qMq (qGG n) (qFe n):=by unfold opV;simp[e3]
  rw[this,qBW a1 a3,a2]
  rfl
 rw[qDA e3]
 have hv:opV n vs=if nOp n=14 then qMq (qGF (vs.getD 0 (.b false))) (sumQ vs)
  else if nOp n=15 then qMq (qGF (vs.getD 0 (.b false))) (qLO (vs.getD 0 (.b false)) * qLO (vs.getD 1 (.b false)))
  else if nOp n=16 then .z (intV (vs.getD 0 (.b false)) / (qFe n).num)
  else if nOp n=17 then .z (intV (vs.getD 0 (.b false)) % (qFe n).num)
  else if nOp n=18 then .z (atS (vs.getD 0 (.b false)) (intV (vs.getD 1 (.b false))))
  else if nOp n=19 then stS (vs.getD 0 (.b false)) (intV (vs.getD 1 (.b false))) (intV (vs.getD 2 (.b false)))
  else .a (intV (vs.getD 0 (.b false))) []:=by
  unfold opV
  rw[if_neg (by omega),if_neg (by omega),if_neg (by omega),if_neg (by omega),if_neg (by omega),if_neg (by omega),if_neg (by omega),if_neg (by omega),if_neg e3]
 rw[hv]
 have hst:qDD n f (vs.map qGF)=if nOp n=14 then (if ((vs.map qGF).getD 0 0=2\/(vs.map qGF).getD 0 0=3)/\∀ s∈vs.map qGF,s=(vs.map qGF).getD 0 0 then (vs.map qGF).getD 0 0 else 0)
  else if nOp n=15 then (if f=3/\((vs.map qGF).getD 0 0=2\/(vs.map qGF).getD 0 0=3)/\∀ s∈vs.map qGF,s=(vs.map qGF).getD 0 0 then (vs.map qGF).getD 0 0 else 0)
  else if nOp n=16\/nOp n=17 then (if (vs.map qGF).getD 0 0=2 then 2 else 0)
  else if nOp n=18 then (if (vs.map qGF).getD 0 0=4/\(vs.map qGF).getD 1 0=2 then 2 else 0)
  else if nOp n=19 then (if (vs.map qGF).getD 0 0=4/\(vs.map qGF).getD 1 0=2/\(vs.map qGF).getD 2 0=2 then 4 else 0)
  else if nOp n=20 then (if (vs.map qGF).getD 0 0=2 then 4 else 0) else 0:=by
  unfold qDD
  rw[if_neg (by omega),if_neg (by omega),if_neg (by omega),if_neg (by omega),if_neg (by omega)]
 rw[hst] at hs
 clear hv hst
 by_cases e14:nOp n=14
 ·rw[e14] at hc
  rw[if_pos e14] at hs
  rw[qFA e14,if_pos e14]
  rcases vs with _ | ⟨a,l⟩
  ·simp[qXA] at hc
  ·simp only[List.map_cons,qZ3] at hs ⊢
   split at hs
   ·rename_i hh
    obtain ⟨g1,g2⟩:=hh
    have hall:∀ v∈a::l,qGF v=qGF a:=fun v hv=>g2 (qGF v) (by
     rcases List.mem_cons.1 hv with rfl | hv
     ·simp
     ·exact qY13 _ (List.mem_map_of_mem hv))
    have h0:Ht 1 ((0:Int):Rat):=qWT (by simp[qFD])
    have key:=qLal (encS a::l.map encS) ((0:Int),false,([]:qBs),([]:List qBs),([]:List qBs)) (a::l) hl (a::l) [] 1 B ((0:Int):Rat) rfl (fun v hv=>by rw[hall v hv];exact g1) h0 hB (by omega)
    rw[<-t0] at key
    simp only[List.length_nil,List.map_cons] at key
    rw[show ((0:Nat):Int)=0 from rfl] at key
    have hlen:(encS a::l.map encS).length=(a::l).length:=by simp
    rw[hlen,key]
    simp only[qAA,qHB,qOA]
    rw[qEA,qBA (by omega),qBA (by simp),i0,qZ3]
    have:qPL (encS a).1 (txt ((a::l).foldl (fun s v=>s+qLO v) ((0:Int):Rat)))=some (((qGF a,false,txt ((a::l).foldl (fun s v=>s+qLO v) ((0:Int):Rat)),[],[]),()),()):=by rw[qFR];rfl
    rw[this,qAA]
    have e:sumQ (a::l)=(a::l).foldl (fun s v=>s+qLO v) ((0:Int):Rat):=rfl
    rw[e,qBW g1 fun h2=>qRag _ _ (Rat.den_intCast 0) fun v hv=>by rw[hall v hv];exact h2]
   ·exact absurd rfl hs
 rw[if_neg e14] at hs
 rw[qDA e14,if_neg e14]
 by_cases e15:nOp n=15
 ·rw[e15] at hc
  rw[if_pos e15] at hs
  rw[qFA e15,if_pos e15]
  rcases vs with _ | ⟨a,_ | ⟨b,_ | ⟨c,l⟩⟩⟩<;>simp[qXA] at hc
  ·simp only[List.map_cons,List.map_nil,qZ3,qZ2] at hs ⊢
   split at hs
   ·rename_i hh
    obtain ⟨_,g1,g2⟩:=hh
    have hb:qGF b=qGF a:=g2 _ (by simp)
    obtain ⟨x,c,q1,q2,⟨y,c2,q5,q6,q7,q8⟩,q4⟩:=hB
    have ha':=qNM q2 q1
    have hb':=qNM q6 q5
    rw[qEA,qBA (by omega),qBA (by simp),qEA,qBA (by omega),qBA (by simp),qEA,qBA (by omega),qBA (by simp),i0,i1,qZ2,qZ3,qZ3,
     qUL g1,qUL (by rw[hb];exact g1),qNav (by have:=ha'.D;omega) (by have:=hb'.D;omega),qAA,qFR]
    rw[qBW g1 fun h2=>by
     rw[(qCJ h2).2.2,(qCJ (hb.trans h2)).2.2,<-Rat.intCast_mul,Rat.den_intCast]]
    rfl
   ·exact absurd rfl hs
  ·omega
 rw[if_neg e15] at hs
 rw[qDA e15,if_neg e15]
 by_cases e16:nOp n=16
 ·rw[e16] at hc
  rw[if_pos (.inl e16)] at hs
  rw[qFA e16,if_pos e16]
  obtain ⟨m,m1,m2,m3⟩:=qEn hn (.inl e16)
  rcases vs with _ | ⟨a,_ | ⟨b,l⟩⟩<;>simp[qXA] at hc
  ·simp only[List.map_cons,List.map_nil,qZ3] at hs ⊢
   split at hs
   ·rename_i hh
    have hi:=qCJ hh
    have h1:=(qHX ((hB.mem a (by simp)).mono (Nat.le_add_right B 1)) (by omega)).D
    have h2:=(qDg hnn).D
    rw[m3] at h2
    rw[qEA,qBA (by omega),qBA (by simp),i0,qZ3,hi.2.1,m2,m3]
    unfold ti
    rw[qZav (by omega) (by omega) (by omega),qAA]
    rfl
   ·exact absurd rfl hs
  ·omega
 rw[qDA e16,if_neg e16]
 by_cases e17:nOp n=17
 ·rw[e17] at hc
  rw[if_pos (.inr e17)] at hs
  rw[qFA e17,if_pos e17]
  obtain ⟨m,m1,m2,m3⟩:=qEn hn (.inr e17)
  rcases vs with _ | ⟨a,_ | ⟨b,l⟩⟩<;>simp[qXA] at hc
  ·simp only[List.map_cons,List.map_nil,qZ3] at hs ⊢
   split at hs
   ·rename_i hh
    have hi:=qCJ hh
    have h1:=(qHX ((hB.mem a (by simp)).mono (Nat.le_add_right B 1)) (by omega)).D
    have h2:=(qDg hnn).D
    rw[m3] at h2
    rw[qEA,qBA (by omega),qBA (by simp),i0,qZ3,hi.2.1,m2,m3]
    unfold ti
    rw[qYav (by omega) (by omega) (by omega),qAA]
    rfl
   ·exact absurd rfl hs
  ·omega
 rw[if_neg (by omega)] at hs
 rw[qDA e17,if_neg e17]
 by_cases e18:nOp n=18
 ·rw[e18] at hc
  rw[if_pos e18] at hs
  rw[qFA e18,if_pos e18]
  rcases vs with _ | ⟨a,_ | ⟨b,_ | ⟨c,l⟩⟩⟩<;>simp[qXA] at hc
  ·simp only[List.map_cons,List.map_nil,qZ3,qZ2] at hs ⊢
   split at hs
   ·rename_i hh
    obtain ⟨d,P,rfl⟩:=qCm hh.1
    have hP:Canon d P:=hok _ (List.mem_cons_self)
    have hi:=qCJ hh.2
    have hsm:=qUal (hB.mem (.a d P) (by simp)) (by omega)
    have h1:=qWd (qHX ((hB.mem b (by simp)).mono (Nat.le_add_right B 1)) (by omega))
    rw[qEA,qBA (by omega),qBA (by simp),qEA,qBA (by omega),qBA (by simp),i0,i1,qZ2,qZ3,qZ3,hi.2.1]
    have e:encS (.a d P)=qCI d P:=rfl
    rw[e,qLau (N:=100000) (by omega) hP.incr hsm (by omega),qAA]
    rfl
   ·exact absurd rfl hs
  ·omega
 rw[if_neg e18] at hs
 rw[qDA e18,if_neg e18]
 by_cases e19:nOp n=19
 ·rw[e19] at hc
  rw[if_pos e19] at hs
  rw[qFA e19,if_pos e19]
  rcases vs with _ | ⟨a,_ | ⟨b,_ | ⟨c,_ | ⟨d,l⟩⟩⟩⟩<;>simp[qXA] at hc
  ·simp only[List.map_cons,List.map_nil,qZ3,qZ2] at hs ⊢
   split at hs
   ·rename_i hh
    obtain ⟨d,P,rfl⟩:=qCm hh.1
    have hP:Canon d P:=hok _ (List.mem_cons_self)
    have hi:=qCJ hh.2.1
    have hj:=qCJ hh.2.2
    have hsm:=qUal (hB.mem (.a d P) (by simp)) (by omega)
    have h1:=qWd (qHX ((hB.mem b (by simp)).mono (Nat.le_add_right B 1)) (by omega))
    rw[qEA,qBA (by omega),qBA (by simp),qEA,qBA (by omega),qBA (by simp),qEA,qBA (by omega),qBA (by simp),i0,i1,i2,qZ2,qZ2,qZ2,qZ3,qZ3,qZ3,hi.2.1,hj.2.1]
    have e:encS (.a d P)=qCI d P:=rfl
    rw[e,qGaj (N:=100000) (by omega) hP.incr hsm (by omega),qAA]
    rfl
   ·exact absurd rfl hs
  ·omega
 rw[if_neg e19] at hs
 rw[qDA e19,if_neg e19]
 have e20:nOp n=20:=by omega
 rw[e20] at hc
 rw[if_pos e20] at hs
 rcases vs with _ | ⟨a,_ | ⟨b,l⟩⟩<;>simp[qXA] at hc
 ·simp only[List.map_cons,List.map_nil,qZ3] at hs ⊢
  split at hs
  ·rename_i hh
   have hi:=qCJ hh
   rw[qEA,qBA (by omega),qBA (by simp),i0,qZ3,hi.2.1]
   rfl
  ·exact absurd rfl hs
 ·omega
theorem qOaj {B:Nat} {a b:SV} (h:Bdd B a) (hB:B<=90000):qPX (encS a) (encS b)=some ((decide (encS a=encS b),()),()):=by
 cases a with
 |a d P=>
  have:=h.2.2
  exact qPW (by simp only[encS,qJE];omega) (by simp only[encS,qNI];omega)
 |b x=>exact qPW (by simp[encS]) (by simp[encS])
 |z x=>exact qPW (by simp[encS]) (by simp[encS])
 |q x=>exact qPW (by simp[encS]) (by simp[encS])
theorem qDag (a b:SV) {i:Decidable (a=b)}:decide (encS a=encS b)=@decide (a=b) i:=by
 rw[decide_eq_decide]
 exact ⟨qVai,fun e=>by rw[e]⟩
theorem qLo {n:Nod} {vs:List SV} {B:Nat} {f:Int} (hn:qRC n=true) (h4:nOp n≠4) (h5:nOp n≠5) (hc:qXA (nOp n) vs.length=true) (hs:qDD n f (vs.map qGF)≠0)
 (hok:∀ v∈vs,okS v) (hB:Hs vs B) (hB9:B<=90000) (hnn:Ht 75 (qFe n)) (hl:vs.length<=100000):qMV n (vs.map encS)=some ((encS (opV n vs),()),()):=by
 have hlm:(vs.map encS).length<=1000000000:=by rw[List.length_map];omega
 have htr:∀ b:Bool,qSO b=some ((encS (.b b),()),()):=fun b=>rfl
 by_cases hbig:nOp n=3\/14<=nOp n
 ·unfold qMV
  have hO:n.1=nOp n:=rfl
  rw[hO,qDA (by omega),qDA (by omega),qDA (by omega),qDA (by omega),qDA (by omega),qDA (by omega),qDA (by omega),qDA (by omega),qDA (by omega),qDA (by omega),
   qXp hn h4 h5 hbig hc hs hok hB hB9 hnn hl,qAA]
 unfold qMV opV
 have hO:n.1=nOp n:=rfl
 rw[hO]
 simp only[qJo hlm,qGt hlm,qCap,qBat,qAA,htr,Bool.not_not]
 by_cases e1:nOp n=1
 ·rw[qFA e1,if_pos (.inl e1)]
 rw[qDA e1]
 by_cases e7:nOp n=7
 ·rw[qFA e7,if_pos (.inr e7)]
 rw[qDA e7,if_neg (by omega)]
 by_cases e2:nOp n=2
 ·rw[qFA e2,if_pos (.inl e2)]
 rw[qDA e2]
 by_cases e8:nOp n=8
 ·rw[qFA e8,if_pos (.inr e8)]
 rw[qDA e8,if_neg (by omega)]
 by_cases e6:nOp n=6
 ·rw[e6] at hc
  rw[qFA e6,if_pos e6]
  rcases vs with _ | ⟨a,_ | ⟨b,l⟩⟩<;>simp[qXA] at hc
  ·simp only[List.map_cons,List.map_nil,qZ3]
   rw[qEA,qBA (by omega),qBA (by simp),i0,qZ3]
   unfold qHr
   rw[qAA,qCM]
  ·omega
 rw[qDA e6,if_neg e6]
 by_cases e9:nOp n=9
 ·rw[e9] at hc
  rw[qFA e9,if_pos e9]
  rcases vs with _ | ⟨a,_ | ⟨b,_ | ⟨c,l⟩⟩⟩<;>simp[qXA] at hc
  ·simp only[List.map_cons,List.map_nil,qZ3,qZ2]
   rw[qEA,qBA (by omega),qBA (by simp),qEA,qBA (by omega),qBA (by simp),i0,i1,qZ2,qZ3,qZ3]
   unfold qHr v_is
   simp only[qAA,qCM,htr]
   cases isT a<;>rfl
  ·omega
 rw[qDA e9,if_neg e9]
 by_cases e10:nOp n=10
 ·rw[e10] at hc
  rw[qFA e10,if_pos e10]
  rcases vs with _ | ⟨a,_ | ⟨b,_ | ⟨c,_ | ⟨d,l⟩⟩⟩⟩<;>simp[qXA] at hc
  ·simp only[List.map_cons,List.map_nil,qZ3,qZ2]
   rw[qEA,qBA (by omega),qBA (by simp),qEA,qBA (by omega),qBA (by simp),qEA,qBA (by omega),qBA (by simp),i0,i1,i2,qZ2,qZ2,qZ2,qZ3,qZ3,qZ3]
   unfold v_is
   simp only[qAA,qCM]
   cases isT a<;>rfl
  ·omega
 rw[qDA e10,if_neg e10]
 by_cases e11:nOp n=11
 ·rw[e11] at hc
  rw[qFA e11,if_pos e11]
  rcases vs with _ | ⟨a,_ | ⟨b,_ | ⟨c,l⟩⟩⟩<;>simp[qXA] at hc
  ·simp only[List.map_cons,List.map_nil,qZ3,qZ2]
   rw[qEA,qBA (by omega),qBA (by simp),qEA,qBA (by omega),qBA (by simp),i0,i1,qZ2,qZ3,qZ3,qOaj (hB.mem a (by simp)) hB9,qAA]
   simp only[qZ3,qZ2]
   exact congrArg (fun x=>some ((encS (SV.b x),()),())) (qDag a b)
  ·omega
 rw[qDA e11,if_neg e11]
 have hnum:nOp n=12\/nOp n=13->∃ a b,vs=[a,b]/\(qGF a=2\/qGF a=3)/\(qGF b=2\/qGF b=3):=by
  intro ho
  have hc2:vs.length=2:=by
   rcases ho with ho | ho<;>rw[ho] at hc<;>simp[qXA] at hc<;>omega
  unfold qDD at hs
  rw[if_neg (by omega),if_neg (by omega),if_neg (by omega),if_neg (by omega),if_pos ho] at hs
  rcases vs with _ | ⟨a,_ | ⟨b,_ | ⟨c,l⟩⟩⟩<;>simp at hc2
  ·simp only[List.map_cons,List.map_nil,qZ3] at hs
   split at hs
   ·rename_i hh
    have hb:qGF b=qGF a:=hh.2 _ (by simp)
    exact ⟨a,b,rfl,hh.1,by rw[hb];exact hh.1⟩
   ·exact absurd rfl hs
 by_cases e12:nOp n=12
 ·obtain ⟨a,b,rfl,ha,hb⟩:=hnum (.inl e12)
  have qa:=(qNM ((hB.mem a (by simp)).mono (Nat.le_add_right B 1)) (by omega)).D
  have qb:=(qNM ((hB.mem b (by simp)).mono (Nat.le_add_right B 1)) (by omega)).D
  rw[qFA e12,if_pos e12]
  simp only[List.map_cons,List.map_nil,qZ3,qZ2]
  rw[qEA,qBA (by omega),qBA (by simp),qEA,qBA (by omega),qBA (by simp),i0,i1,qZ2,qZ3,qZ3,qUL ha,qUL hb,qTau (by omega) (by omega),qAA]
  simp only[qZ3,qZ2]
  have e:decide ((qLO a - qLO b).num.sign<=0)=decide (qLO a<=qLO b):=by rw[decide_eq_decide];exact qDan _ _
  rw[e]
 rw[qDA e12,if_neg e12]
 by_cases e13:nOp n=13
 ·obtain ⟨a,b,rfl,ha,hb⟩:=hnum (.inr e13)
  have qa:=(qNM ((hB.mem a (by simp)).mono (Nat.le_add_right B 1)) (by omega)).D
  have qb:=(qNM ((hB.mem b (by simp)).mono (Nat.le_add_right B 1)) (by omega)).D
  rw[qFA e13,if_pos e13]
  simp only[List.map_cons,List.map_nil,qZ3,qZ2]
  rw[qEA,qBA (by omega),qBA (by simp),qEA,qBA (by omega),qBA (by simp),i0,i1,qZ2,qZ3,qZ3,qUL ha,qUL hb,qTau (by omega) (by omega),qAA]
  simp only[qZ3,qZ2]
  have e:decide ((qLO a - qLO b).num.sign < 0)=decide (qLO a < qLO b):=by rw[decide_eq_decide];exact qQam _ _
  rw[e]
 exfalso
 clear hO hnum htr hs
 unfold qRC at hn
 rw[if_neg (by omega),if_neg (by omega),if_neg (by omega)] at hn
 simp only[qY0,decide_eq_true_eq] at hn
 omega
abbrev Em:=List (qBs×Val)
abbrev Fm:=List (qBs×Interp)
structure EM (A:qBs->Option SV) (G:Nod->List SV->Int ⊕ SV) (env:Em) (fns:Fm):Prop where
 var:∀ nm,qMD nm env=(A nm).map encS
 call:∀ t p n vs B,Hs vs B->B<=90000->qNO (t,p,env,fns) n (vs.map encS)=some ((match G n vs with | .inl e=>(qND,e,()) | .inr v=>(encS v,0,())),((t,p,env,fns),()))
def qRam (A:qBs->Option SV) (G:Nod->List SV->Int ⊕ SV) (env:Em) (fns:Fm) (t:List Nod) (nx:Evl->Option ((Val×Int×Unit)×(Evl×Unit))) (d:Nat):Prop:=
 ∀ (n:Nod) (k:Tf) (p:Nat) (rest:List Nod),t.drop p=n::(k.flat++rest)->(cons n k nil).wf=true->(0:Int)∉(cons n k nil).srt->qPT (cons n k nil)->k.dep+1<=d->
  match evF A G (cons n k nil) with
  |.inl e=>∃ y,nx (t,(p:Int),env,fns)=some ((qND,e,()),(y,()))
  |.inr [v]=>nx (t,(p:Int),env,fns)=some ((encS v,0,()),((t,((p+1+k.size:Nat):Int),env,fns),()))
  |.inr _=>False
theorem qHap {A:qBs->Option SV} {G:Nod->List SV->Int ⊕ SV} (hE:EA A G) {env:Em} {fns:Fm} {t:List Nod} (ht:t.length<=20000) {nx:Evl->Option ((Val×Int×Unit)×(Evl×Unit))} {d:Nat} (hnx:qRam A G env fns t nx d) (m:Nod) :
 ∀ (k:Tf) (p:Nat) (rest:List Nod) (acc:List Val) (idx:Nat) (K:Int),t.drop p=k.flat++rest->k.wf=true->(0:Int)∉k.srt->qPT k->k.dep<=d->((idx+k.len:Nat):Int)=K->acc.length+k.len<=100000->idx+k.len<=100000->
 match evF A G k with
 |.inl e=>∃ y x,qPA (qXB nx) ((t,(p:Int),env,fns),qND,(0:Int),m,acc,K,(idx:Int),())=some (.ret,(y,qND,e,m,x))
 |.inr vs=>qPA (qXB nx) ((t,(p:Int),env,fns),qND,(0:Int),m,acc,K,(idx:Int),())=some (.exit 0,((t,((p+k.size:Nat):Int),env,fns),qND,(0:Int),m,acc++vs.map encS,K,K,())):=by
 intro k
 induction k with
 |nil=>
  intro p rest acc idx K _ _ _ _ _ hK _ _
  simp only[evF]
  simp only[len,Nat.add_zero] at hK
  refine qUA ?_ (by simp)
  unfold qXB
  simp only
  rw[qJA (by omega),hK]
  simp[size]
 |cons n k r ik ir=>
  intro p rest acc idx K hd hw hs hn hdep hK h1 h2
  obtain ⟨w1,w2,w3,w4⟩:=qWH.1 hw
  obtain ⟨s1,s2,s3⟩:=qVI.1 hs
  simp only[dep] at hdep
  simp only[len] at hK h1 h2
  simp only[flat,qY5,qZ1] at hd
  have hsing:=hnx n k p (r.flat++rest) hd (qWH.2 ⟨w1,w2,w3,rfl⟩) (qVI.2 ⟨s1,s2,by simp[srt]⟩) (fun x hx=>hn x (by simp only[flat,qY12,qZ7] at hx ⊢;rcases hx with h | h | h;exact .inl h;exact .inr (.inl h);cases h)) (by omega)
  have hne:∀ e,evF A G (cons n k nil)=.inl e->e≠0:=by
   intro e he
   have hgen:∀ (f:Tf) e,evF A G f=.inl e->e≠0:=by
    intro f
    induction f with
    |nil=>intro e h;simp[evF] at h
    |cons a b c ib ic=>
     intro e h
     simp only[evF] at h
     split at h
     ·rename_i e' hb
      cases h;exact ib _ hb
     ·split at h
      ·rename_i e' hv
       cases h
       unfold evN at hv
       split at hv
       ·split at hv
        ·cases hv;decide
        ·split at hv
         ·cases hv
         ·cases hv;decide
       ·split at hv
        ·exact hE.er _ _ _ hv
        ·cases hv
      ·split at h
       ·rename_i e' hc
        cases h;exact ic _ hc
       ·cases h
   exact hgen _ e he
  have hlen:p+1+k.size+r.size+rest.length=t.length:=by
   have:=congrArg List.length hd
   simp only[List.length_drop,qY11,qZ6,qMC] at this
   omega
  have hd':t.drop (p+1+k.size)=r.flat++rest:=by
   have:=congrArg (List.drop (1+k.size)) hd
   rw[List.drop_drop] at this
   have e:p+(1+k.size)=p+1+k.size:=by omega
   rw[e] at this
   rw[this,Nat.add_comm 1,List.drop_succ_cons,List.drop_append_of_le_length (by rw[qMC];omega),qY7 (by rw[qMC];omega),qY15]
  have hsplit:evF A G (cons n k r)=match evF A G (cons n k nil) with
   |.inl e=>.inl e
   |.inr us=>match evF A G r with
    |.inl e=>.inl e
    |.inr ws=>.inr (us++ws):=by
   simp only[evF]
   cases evF A G k with
   |inl e=>rfl
   |inr vs=>
    simp only
    cases evN A G n vs with
    |inl e=>rfl
    |inr v=>
     simp only
     cases evF A G r<;>rfl
  rw[hsplit]
  cases he:evF A G (cons n k nil) with
  |inl e=>
   rw[he] at hsing
   obtain ⟨y,hy⟩:=hsing
   simp only
   refine ⟨y,_,qUA (y:=(y,qND,e,m,acc,K,(idx:Int),())) ?_ (by simp)⟩
   unfold qXB
   simp only
   rw[qGA (by omega),hy,qAA,qDE (hne e he)]
  |inr us=>
   rw[he] at hsing
   match us,hsing with
   |[v],hsing=>
    simp only at hsing ⊢
    have hgo:qXB nx ((t,(p:Int),env,fns),qND,(0:Int),m,acc,K,(idx:Int),())=some (.normal,((t,((p+1+k.size:Nat):Int),env,fns),qND,(0:Int),m,acc++[encS v],K,((idx+1:Nat):Int),())):=by
     unfold qXB
     simp only
     rw[qGA (by omega),hsing,qAA,qID rfl,qBA (by simp[qKF];omega),w64 (by omega)]
     rfl
    have ihr:=ir (p+1+k.size) rest (acc++[encS v]) (idx+1) K hd' w4 s3 (fun x hx=>hn x (by simp only[flat,qY12,qZ7];exact .inr (.inr hx))) (by omega) (by omega) (by simp;omega) (by omega)
    cases hr:evF A G r with
    |inl e=>
     rw[hr] at ihr
     obtain ⟨y,x,h⟩:=ihr
     exact ⟨y,x,by rw[qAB hgo,h]⟩
    |inr ws=>
     rw[hr] at ihr
     simp only at ihr ⊢
     rw[qAB hgo,ihr]
     have e:p+1+k.size+r.size=p+(cons n k r).size:=by simp only[size];omega
     rw[e]
     simp
theorem qMap {A:qBs->Option SV} {G:Nod->List SV->Int ⊕ SV} (hE:EA A G) {env:Em} {fns:Fm} (hM:EM A G env fns) {t:List Nod} (ht:t.length<=1100) :
 ∀ d,qRam A G env fns t (qTC d) d:=by
 intro d
 induction d with
 |zero=>intro n k p rest _ _ _ _ h;omega
 |succ d ih=>
  intro n k p rest hd hw hs hn hdep
  obtain ⟨w1,w2,w3,w4⟩:=qWH.1 hw
  obtain ⟨s1,s2,s3⟩:=qVI.1 hs
  obtain ⟨g1,g2⟩:=qIK (d:=qPE) hd
  have hnk:qPT k:=fun m hm=>hn m (by simp only[flat,qY12,qZ7];exact .inr (.inl hm))
  have hd':t.drop (p+1)=k.flat++rest:=by
   have:=congrArg (List.drop 1) hd
   rw[List.drop_drop] at this
   simpa using this
  have hlen:p+1+k.size+rest.length=t.length:=by
   have:=congrArg List.length hd
   simp only[List.length_drop,qY11,qZ6,qMC] at this
   omega
  have hkl:=qWK k
  have hkids:=qHap hE (by omega) ih n k (p+1) rest [] 0 (k.len:Int) hd' w3 s1 hnk (by omega) (by simp) (by simp;omega) (by omega)
  have hK:n.2.2.2.2=(k.len:Int):=w2
  have hwp:qI ((p:Int)+1)=((p+1:Nat):Int):=by rw[w64 (by omega)];rfl
  have hunf:qTC (d+1) (t,(p:Int),env,fns)=qOI (qTC d) (t,(p:Int),env,fns):=rfl
  rw[hunf]
  unfold qOI
  simp only
  rw[qEA,qBA (by omega),qBA (by omega),qZ0,g1,hK,hwp]
  rw[show ((0:Nat):Int)=0 from rfl] at hkids
  simp only[evF]
  cases hk:evF A G k with
  |inl e=>
   rw[hk] at hkids
   obtain ⟨y,x,h⟩:=hkids
   simp only
   refine ⟨y,?_⟩
   have h':qPA (qXB (qTC d)) ((t,((p+1:Nat):Int),env,fns),((0:Int),false,([]:qBs),([]:List qBs),([]:List qBs)),0,n,([]:List Val),(k.len:Int),0,())=some (.ret,(y,qND,e,n,x)):=h
   rw[h']
   simp only[qAA,qQC,qNC,qOA,qVA]
  |inr vs=>
   rw[hk] at hkids
   obtain ⟨e1,e2,e3⟩:=qWB hE k w3 s1 hnk vs hk
   simp only at hkids ⊢
   have h':qPA (qXB (qTC d)) ((t,((p+1:Nat):Int),env,fns),((0:Int),false,([]:qBs),([]:List qBs),([]:List qBs)),0,n,([]:List Val),(k.len:Int),0,())=some (.exit 0,((t,((p+1+k.size:Nat):Int),env,fns),qND,(0:Int),n,[]++vs.map encS,(k.len:Int),(k.len:Int),())):=hkids
   rw[h']
   simp only[qAA,qHB,qOA,qY15]
   have hO:n.1=nOp n:=rfl
   rw[hO]
   have hvl:vs.length=k.len:=by
    have:=congrArg List.length e1
    rw[List.length_map,qKM] at this
    exact this
   unfold evN
   by_cases h4:nOp n=4
   ·rw[qFA h4,if_pos h4]
    unfold qFK
    simp only
    have hv:=hM.var n.2.2.1
    have hA:A (qCP n)=A n.2.2.1:=rfl
    rw[hA,hv]
    cases A n.2.2.1 with
    |none=>exact ⟨_,rfl⟩
    |some v=>
     simp only[Option.map_some,Option.isSome_some,qY2,qVA,Option.getD_some,qFR]
     by_cases q:qGF v=n.2.1
     ·rw[qID q,if_pos q]
      rfl
     ·rw[qDE q,if_neg q]
      exact ⟨_,rfl⟩
   ·rw[qDA h4,if_neg h4]
    by_cases h5:nOp n=5
    ·rw[qFA h5,if_pos h5,hM.call t _ n vs _ e3 (by omega)]
     cases G n vs with
     |inl e=>exact ⟨_,rfl⟩
     |inr v=>rfl
    ·rw[qDA h5,if_neg h5]
     obtain ⟨f1,f2⟩:=qFV.1 w1
     rw[qLo (f:=op1 k) f1 h4 h5 (by rw[hvl,<-w2];exact f2) (by rw[e1];exact s2) e2 e3 (by omega) (qIt (hn n (by simp[flat]))) (by omega)]
     rfl
open Classical in
noncomputable def decS (v:Val):Option SV:=if h:∃ s,okS s/\v=encS s then some h.choose else none
theorem qVj {v:Val} (h:qNF v=true):∃ s,decS v=some s/\okS s/\v=encS s:=by
 have h':=qGx.1 h
 refine ⟨h'.choose,?_,h'.choose_spec.1,h'.choose_spec.2⟩
 unfold decS
 rw[dif_pos h']
theorem qQaf {v:Val} {s:SV} (h:decS v=some s):okS s/\v=encS s:=by
 unfold decS at h
 split at h
 ·rename_i hh
  cases h;exact hh.choose_spec
 ·cases h
structure SmallV (v:Val):Prop where
 sh:Short 73 v
 few:v.2.2.2.1.length<=75
theorem qCaj {z:Int} (h:(ti z).length<=73):Ht 75 (z:Rat):=by
 have:=D_le (z:Rat)
 exact qXs (by unfold ti at h;omega)
theorem qLak {s:SV} (h:SmallV (encS s)):Bdd 75 s:=by
 cases s with
 |b x=>trivial
 |z n=>exact qCaj h.sh.num
 |q r=>
  have h1:(txt r).length<=73:=h.sh.num
  have:=D_le r
  exact qXs (by omega)
 |a d P=>
  have hs:=qJaw (d:=d) (P:=P) h.sh
  have hf:(ks P).length<=75:=h.few
  rw[qJE] at hf
  exact ⟨qCaj hs.num,fun p hp=>⟨qCaj (hs.els p hp).1,qCaj (hs.els p hp).2⟩,hf⟩
noncomputable def qSw (env:List qEK) (nm:qBs):Option SV:=(env.find? fun b=>decide (b.1=nm)).bind fun b=>decS b.2
def G0:Nod->List SV->Int ⊕ SV:=fun _ _=>.inl 4
theorem qFaf {env:List qEK} (hs:∀ b∈env,SmallV b.2):EA (qSw env) G0:=by
 refine ⟨fun nm v h=>?_,fun n vs v h=>by simp[G0] at h,fun n vs e h=>by simp only[G0,Sum.inl.injEq] at h;subst h;decide⟩
 unfold qSw at h
 simp only[Option.bind_eq_some_iff] at h
 obtain ⟨b,h1,h2⟩:=h
 obtain ⟨a1,a2⟩:=qQaf h2
 exact ⟨a1,qLak (by rw[<-a2];exact hs b (List.mem_of_find?_eq_some h1))⟩
theorem qWl {env:List qEK} (hs:∀ b∈env,SmallV b.2) (hl:env.length<=1000000000):∀ (m p:Nat) (out:Em),p+m=env.length->(∀ b∈env.take p,qNF b.2=true)->(∀ nm,qMD nm out=((env.take p).find? fun b=>decide (b.1=nm)).map (·.2))->
 ((¬ ∀ b∈env,qNF b.2=true)/\∃ x,qPA qRG (([]:Em),false,out,env,(env.length:Int),(p:Int),())=some (.ret,(([]:Em),false,x)))\/
 ((∀ b∈env,qNF b.2=true)/\∃ out' x,(∀ nm,qMD nm out'=(env.find? fun b=>decide (b.1=nm)).map (·.2))/\qPA qRG (([]:Em),false,out,env,(env.length:Int),(p:Int),())=some (.exit 0,(([]:Em),false,out',x))):=by
 intro m
 induction m with
 |zero=>
  intro p out hp hv ho
  have e:env.take p=env:=List.take_of_length_le (by omega)
  rw[e] at hv ho
  exact .inr ⟨hv,out,_,ho,qUA (by unfold qRG;simp only;rw[qJA (by omega)]) (by simp)⟩
 |succ m ih=>
  intro p out hp hv ho
  have hlt:p < env.length:=by omega
  have hg:env.getD p qJU=env[p]:=by simp[qZ4,hlt]
  have hmem:env[p]∈env:=List.getElem_mem hlt
  have htk:env.take (p+1)=env.take p++[env[p]]:=by rw[List.take_add_one,qZ5 hlt];rfl
  generalize env[p]=b at hg hmem htk
  have hvb:=qBz (N:=73) (by omega) (hs b hmem).sh
  by_cases hb:qNF b.2=false
  ·refine .inl ⟨fun h=>(by rw[h b hmem] at hb;cases hb),_,qUA (by
    unfold qRG
    simp only
    rw[qGA (by omega),qEA,qBA (by omega),qBA (by omega),qZ0,hg,hvb,qAA]
    rw[hb]
    rfl) (by simp)⟩
  rw[Bool.not_eq_false] at hb
  have hv':∀ c∈env.take (p+1),qNF c.2=true:=by
   intro c hc
   rw[htk,qZ7,qZ8] at hc
   rcases hc with hc | rfl
   ·exact hv c hc
   ·exact hb
  have hstep:∃ out',(∀ nm,qMD nm out'=((env.take (p+1)).find? fun b=>decide (b.1=nm)).map (·.2))/\qRG (([]:Em),false,out,env,(env.length:Int),(p:Int),())=some (.normal,(([]:Em),false,out',env,(env.length:Int),((p+1:Nat):Int),())):=by
   unfold qRG
   simp only
   rw[qGA (by omega),qEA,qBA (by omega),qBA (by omega),qZ0,hg,hvb,qAA,hb,w64 (by omega)]
   simp only[qY2,qVA]
   have hob:=ho b.1
   cases hlk:qMD b.1 out with
   |none=>
    simp only[Option.isSome_none,qY1,qOA]
    refine ⟨_,fun nm=>?_,rfl⟩
    rw[htk,List.find?_append]
    rw[hlk] at hob
    have hn:(env.take p).find? (fun c=>decide (c.1=b.1))=none:=by
     cases hf:(env.take p).find? (fun c=>decide (c.1=b.1)) with
     |none=>rfl
     |some c=>rw[hf] at hob;cases hob
    by_cases e:nm=b.1
    ·subst e
     rw[qRM,hn]
     simp
    ·rw[qRQ e,ho nm]
     have:[b].find? (fun c=>decide (c.1=nm))=none:=by
      rw[List.find?_eq_none]
      intro c hc
      rw[qZ8] at hc
      subst hc
      simpa using fun h=>e h.symm
     rw[this]
     cases (env.take p).find? (fun c=>decide (c.1=nm))<;>rfl
   |some v=>
    simp only[Option.isSome_some,qY2,qVA]
    refine ⟨_,fun nm=>?_,rfl⟩
    rw[htk,List.find?_append,ho nm]
    cases hf:(env.take p).find? (fun c=>decide (c.1=nm)) with
    |some c=>rfl
    |none=>
     have:[b].find? (fun c=>decide (c.1=nm))=none:=by
      rw[List.find?_eq_none]
      intro c hc
      rw[qZ8] at hc
      subst hc
      simp only[decide_eq_true_eq]
      intro h
      rw[hlk,h,hf] at hob
      cases hob
     rw[this]
     rfl
  obtain ⟨out',h1,h2⟩:=hstep
  rw[qAB h2]
  exact ih (p+1) out' (by omega) hv' h1
theorem qSl {env:List qEK} (hs:∀ b∈env,SmallV b.2) (hl:env.length<=1000000000) :
 ((¬ ∀ b∈env,qNF b.2=true)/\qIS env=some (([],false,()),()))\/((∀ b∈env,qNF b.2=true)/\∃ out,(∀ nm,qMD nm out=(qSw env nm).map encS)/\qIS env=some ((out,true,()),())):=by
 unfold qIS
 rcases qWl hs hl env.length 0 [] (by omega) (fun b hb=>by simp at hb) (fun nm=>by simp[qMD]) with ⟨h1,x,h2⟩ | ⟨h1,out,x,h2,h3⟩
 ·rw[show ((0:Nat):Int)=0 from rfl] at h2
  rw[h2]
  simp only[qAA,qQC,qNC,qOA,qVA]
  exact .inl ⟨h1,by first | rfl | trivial⟩
 ·rw[show ((0:Nat):Int)=0 from rfl] at h3
  rw[h3]
  simp only[qAA,qHB,qOA]
  refine .inr ⟨h1,out,fun nm=>?_,rfl⟩
  rw[h2]
  unfold qSw
  cases hf:env.find? (fun b=>decide (b.1=nm)) with
  |none=>rfl
  |some b=>
   obtain ⟨s,s1,s2,s3⟩:=qVj (h1 b (List.mem_of_find?_eq_some hf))
   rw[Option.map_some,Option.bind_some,s1,s3]
   rfl
open Classical in
noncomputable def qGZ (t:List Nod) (env:List qEK):Val×Int:=
 if h:(∀ b∈env,qNF b.2=true)/\∃ F,VT t F then
  (match evF (qSw env) G0 h.2.choose with
  |.inl e=>(qND,e)
  |.inr [v]=>(encS v,0)
  |.inr _=>(qND,1))
 else (qND,1)
theorem qMm {t:List Nod} {env:List qEK} {F:Tf} (hv:∀ b∈env,qNF b.2=true) (hF:VT t F):qGZ t env=match evF (qSw env) G0 F with
 |.inl e=>(qND,e)
 |.inr [v]=>(encS v,0)
 |.inr _=>(qND,1):=by
 have h:(∀ b∈env,qNF b.2=true)/\∃ F,VT t F:=⟨hv,F,hF⟩
 unfold qGZ
 rw[dif_pos h,h.2.choose_spec.uniq hF]
theorem qEV {t:List Nod} {env:List qEK} (h:¬ ((∀ b∈env,qNF b.2=true)/\∃ F,VT t F)):qGZ t env=(qND,1):=by unfold qGZ;rw[dif_neg h]
theorem qEX:qDc []=some (([],true,()),()):=by kernel_rfl
def qFg (t:List Nod):Prop:=∀ n∈t,(qQT n).length<=73
theorem qAah {B:Nat} {v:SV} (h:Bdd B v) (hB:B<=90000):qOc (encS v)=some ((encS v,()),()):=by
 cases v with
 |a d P=>have:=h.2.2;exact qMZ (by simp only[encS,qJE];omega) (by simp only[encS,qNI];omega)
 |b x=>exact qMZ (by simp[encS]) (by simp[encS])
 |z x=>exact qMZ (by simp[encS]) (by simp[encS])
 |q x=>exact qMZ (by simp[encS]) (by simp[encS])
theorem qWs {A:qBs->Option SV} {G:Nod->List SV->Int ⊕ SV} {n:Nod} {k:Tf}:(∃ e,evF A G (cons n k nil)=.inl e)\/∃ v,evF A G (cons n k nil)=.inr [v]:=by
 simp only[evF]
 cases evF A G k with
 |inl e=>exact .inl ⟨e,rfl⟩
 |inr vs=>
  simp only
  cases evN A G n vs with
  |inl e=>exact .inl ⟨e,rfl⟩
  |inr v=>exact .inr ⟨v,rfl⟩
theorem qDai {A:qBs->Option SV} {G:Nod->List SV->Int ⊕ SV} (hE:EA A G):∀ (f:Tf) e,evF A G f=.inl e->e≠0:=by
 intro f
 induction f with
 |nil=>intro e h;simp[evF] at h
 |cons a b c ib ic=>
  intro e h
  simp only[evF] at h
  split at h
  ·rename_i e' hb
   cases h;exact ib _ hb
  ·split at h
   ·rename_i e' hv
    cases h
    unfold evN at hv
    split at hv
    ·split at hv
     ·cases hv;decide
     ·split at hv
      ·cases hv
      ·cases hv;decide
    ·split at hv
     ·exact hE.er _ _ _ hv
     ·cases hv
   ·split at h
    ·rename_i e' hc
     cases h;exact ic _ hc
    ·cases h
theorem qBad {t:List Nod} {env:List qEK} (ht:qFg t) (hl:t.length<=1100) (hs:∀ b∈env,SmallV b.2) (he:env.length<=1000000000):qXj t env []=some (((qGZ t env).1,(qGZ t env).2,()),()):=by
 unfold qXj
 rcases qSl hs he with ⟨h1,h2⟩ | ⟨h1,out,h2,h3⟩
 ·rw[h2,qEX,qEV fun h=>h1 h.1]
  rfl
 rw[h3,qEX]
 simp only[qAA,qY2,qVA]
 obtain ⟨b,b1,b2⟩:=qXy (t:=t) fun n hn=>by have:=ht n hn;omega
 rw[b1,qAA]
 cases b with
 |false=>rw[qEV fun h=>by have:=b2.2 h.2;cases this];rfl
 |true=>
  simp only[qY2,qVA]
  obtain ⟨F,hF⟩:=b2.1 rfl
  rw[qMm h1 hF]
  obtain ⟨n,k,rfl⟩:=hF.one
  have hE:=qFaf hs
  have hM:EM (qSw env) G0 out []:=⟨h2,fun t p n vs B _ _=>rfl⟩
  have hfl:=hF.flat
  obtain ⟨d,hd1,hd2⟩:∃ d,big=d/\258<=d:=⟨big,rfl,by decide⟩
  have hdep:=hF.dep
  simp only[dep] at hdep
  have hsF:qPT (cons n k nil):=fun m hm=>ht m (by rw[<-hfl];exact hm)
  have hnx:=qMap hE hM hl d n k 0 [] (by rw[<-hfl];simp[flat]) hF.wf hF.srt hsF (by omega)
  rw[hd1]
  rw[show ((0:Nat):Int)=0 from rfl] at hnx
  rcases qWs (A:=qSw env) (G:=G0) (n:=n) (k:=k) with ⟨e,hev⟩ | ⟨v,hev⟩
  ·rw[hev] at hnx ⊢
   obtain ⟨y,hy⟩:=hnx
   rw[hy,qAA,qDE (qDai hE _ _ hev)]
  ·rw[hev] at hnx ⊢
   simp only at hnx ⊢
   rw[hnx,qAA,qID rfl]
   obtain ⟨_,_,q3⟩:=qWB hE _ hF.wf hF.srt hsF _ hev
   have hz:(cons n k nil).size<=1100:=by rw[<-qMC,hfl];exact hl
   rw[qAah (q3.mem v (by simp)) (by omega),qAA]
end Go.AM.Num
end
section
namespace Go.AM.Num
open Tf
structure VSok (VS:List Vr):Prop where
 name:∀ v∈VS,qVi v.1=true/\1<=v.2/\v.2<=4
 once:∀ v∈VS,∀ w∈VS,v.1=w.1->v=w
structure GenF (VS:List Vr) (ss:List Int) (N d:Nat) (l:List Nod) (K:Tf):Prop where
 flat:K.flat=l
 wf:K.wf=true
 srt:K.srt=ss
 nz:(0:Int)∉ss
 sh:qFg l
 size:K.size<=N
 dep:K.dep<=d
 vars:∀ x∈l,nOp x=4->(qCP x,qGG x)∈VS
 noap:∀ x∈l,nOp x≠5
def qVQ (VS:List Vr) (ss:List Int) (N d:Nat) (l:List Nod):Prop:=∃ K,GenF VS ss N d l K
theorem qVQ.nil (VS:List Vr):qVQ VS [] 0 0 []:=⟨Tf.nil,rfl,rfl,rfl,by simp,fun _ h=>absurd h qY16,Nat.le_refl _,Nat.le_refl _,fun _ h=>absurd h qY16,fun _ h=>absurd h qY16⟩
theorem qVQ.mono {VS:List Vr} {ss:List Int} {N M d e:Nat} {l:List Nod} (h:qVQ VS ss N d l) (hN:N<=M) (hd:d<=e):qVQ VS ss M e l:=by
 obtain ⟨K,hK⟩:=h
 exact ⟨K,hK.flat,hK.wf,hK.srt,hK.nz,hK.sh,by have:=hK.size;omega,by have:=hK.dep;omega,hK.vars,hK.noap⟩
theorem qVQ.app {VS:List Vr} {ss uu:List Int} {N M d:Nat} {l m:List Nod} (h:qVQ VS ss N d l) (g:qVQ VS uu M d m):qVQ VS (ss++uu) (N+M) d (l++m):=by
 obtain ⟨K,hK⟩:=h
 obtain ⟨L,hL⟩:=g
 refine ⟨K.app L,by rw[qAW,hK.flat,hL.flat],by rw[qMo,hK.wf,hL.wf];rfl,by rw[qNc,hK.srt,hL.srt],?_,?_,?_,?_,?_,?_⟩
 ·rw[qZ7];exact fun h=>h.elim hK.nz hL.nz
 ·exact fun x hx=>(List.mem_append.1 hx).elim (hK.sh x) (hL.sh x)
 ·rw[qBf];have:=hK.size;have:=hL.size;omega
 ·rw[qTt];have:=hK.dep;have:=hL.dep;omega
 ·exact fun x hx=>(List.mem_append.1 hx).elim (hK.vars x) (hL.vars x)
 ·exact fun x hx=>(List.mem_append.1 hx).elim (hK.noap x) (hL.noap x)
theorem qPx {K:Tf} {l:List Nod} (h:K.flat=l):op1 K=(l.getD 0 qPE).1:=by
 subst h
 cases K<;>rfl
theorem qVQ.node {VS:List Vr} {ss:List Int} {N d:Nat} {l:List Nod} (h:qVQ VS ss N d l) {n:Nod} {s:Int} (hf:qRC n=true) (hc:qXA (nOp n) ss.length=true) (hk:qPF n=(ss.length:Int)) (hs:qDD n (l.getD 0 qPE).1 ss=s) (hz:s≠0)
 (hnum:(qQT n).length<=73) (hv:nOp n=4->(qCP n,qGG n)∈VS) (ha:nOp n≠5):qVQ VS [s] (N+1) (d+1) (n::l):=by
 obtain ⟨K,hK⟩:=h
 have hl:K.len=ss.length:=by rw[<-qKM,hK.srt]
 refine ⟨cons n K Tf.nil,by simp[Tf.flat,hK.flat],qWH.2 ⟨qFV.2 ⟨hf,by rw[hk];exact hc⟩,by rw[hl];exact hk,hK.wf,rfl⟩,?_,?_,?_,?_,?_,?_,?_⟩
 ·simp only[Tf.srt,hK.srt]
  rw[if_neg hK.nz,qPx hK.flat,hs]
 ·simp[Ne.symm hz]
 ·intro x hx
  rcases List.mem_cons.1 hx with rfl | hx
  ·exact hnum
  ·exact hK.sh x hx
 ·simp only[Tf.size];have:=hK.size;omega
 ·simp only[Tf.dep];have:=hK.dep;omega
 ·intro x hx
  rcases List.mem_cons.1 hx with rfl | hx
  ·exact hv
  ·exact hK.vars x hx
 ·intro x hx
  rcases List.mem_cons.1 hx with rfl | hx
  ·exact ha
  ·exact hK.noap x hx
theorem qAaj {n:Nod} {k:Tf}:∀ {f:Tf},(n,k)∈f.subs->n∈f.flat:=by
 intro f
 induction f with
 |nil=>intro h;simp[subs] at h
 |cons m a b ia ib=>
  intro h
  simp only[subs,qY12,qZ7,Prod.mk.injEq] at h
  simp only[Tf.flat,qY12,qZ7]
  rcases h with ⟨rfl,_⟩ | h | h
  ·exact .inl rfl
  ·exact .inr (.inl (ia h))
  ·exact .inr (.inr (ib h))
theorem qRat {VS:List Vr} (hV:VSok VS) {s:Int} {N d:Nat} {t:List Nod} {F:Tf} (h:GenF VS [s] N d t F) (hN:N<=20000) (hd:d<=257):VT t F:=by
 refine ⟨h.flat,h.wf,by rw[h.srt];exact h.nz,by rw[<-qKM,h.srt];rfl,by have:=h.size;omega,by have:=h.dep;omega,?_⟩
 have key:∀ a∈qLs F,a.2.1=false/\a.2.2.1=[]/\(a.1,a.2.2.2)∈VS:=by
  intro a ha
  obtain ⟨⟨n,k⟩,h1,h2⟩:=List.mem_filterMap.1 ha
  have hm:n∈t:=by rw[<-h.flat];exact qAaj h1
  unfold qKT at h2
  split at h2
  ·rename_i h4
   simp only[Option.some.injEq] at h2
   subst h2
   exact ⟨rfl,rfl,h.vars n hm h4⟩
  ·split at h2
   ·rename_i h5
    exact absurd h5 (h.noap n hm)
   ·cases h2
 rintro ⟨a,b,c,e⟩ ha ⟨a',b',c',e'⟩ ha' hn
 obtain ⟨p1,p2,p3⟩:=key _ ha
 obtain ⟨q1,q2,q3⟩:=key _ ha'
 simp only at p1 p2 p3 q1 q2 q3 hn
 have:=hV.once _ p3 _ q3 hn
 simp only[Prod.mk.injEq] at this
 rw[p1,p2,q1,q2,this.1,this.2]
theorem qYao {VS:List Vr} (hV:VSok VS) {nm:qBs} {s:Int} (h:(nm,s)∈VS):qVQ VS [s] 1 1 [((4:Int),s,nm,([]:qBs),(0:Int))]:=by
 obtain ⟨h1,h2,h3⟩:=hV.name _ h
 exact (qVQ.nil VS).node (by simp[nOp,qGG,qCP,qQT,qRC,h1,h2,h3]) rfl rfl (by simp[nOp,qGG,qDD]) (by simp only at h2;omega) (by simp[qQT]) (fun _=>h) (by simp[nOp])
theorem qJh {VS:List Vr} {z:Int} (h:(ti z).length<=73):qVQ VS [2] 1 1 [((3:Int),(2:Int),([]:qBs),ti z,(0:Int))]:=
 (qVQ.nil VS).node (by simp[nOp,qGG,qCP,qQT,qRC,qFa]) rfl rfl (by simp[nOp,qGG,qDD]) (by omega) h (fun h=>by simp[nOp] at h) (by simp[nOp])
theorem qMaf {VS:List Vr} {q:Rat} (h:(txt q).length<=73):qVQ VS [3] 1 1 [((3:Int),(3:Int),([]:qBs),txt q,(0:Int))]:=
 (qVQ.nil VS).node (by simp[nOp,qGG,qCP,qQT,qRC,qHK]) rfl rfl (by simp[nOp,qGG,qDD]) (by omega) h (fun h=>by simp[nOp] at h) (by simp[nOp])
theorem qXw {VS:List Vr}:qVQ VS [1] 1 1 [((1:Int),(0:Int),([]:qBs),([]:qBs),(0:Int))]:=
 (qVQ.nil VS).node (by simp[nOp,qGG,qCP,qQT,qRC]) rfl rfl (by simp[nOp,qGG,qDD]) (by omega) (by simp[qQT]) (fun h=>by simp[nOp] at h) (by simp[nOp])
theorem qBo {VS:List Vr}:qVQ VS [1] 1 1 [((2:Int),(0:Int),([]:qBs),([]:qBs),(0:Int))]:=
 (qVQ.nil VS).node (by simp[nOp,qGG,qCP,qQT,qRC]) rfl rfl (by simp[nOp,qGG,qDD]) (by omega) (by simp[qQT]) (fun h=>by simp[nOp] at h) (by simp[nOp])
def alphaB (c:UInt8):Bool:=(decide (97<=c)&&decide (c<=122))||(decide (65<=c)&&decide (c<=90))
theorem qEr (c:UInt8):qQe (c.toNat:Int)=some ((alphaB c,()),()):=by
 refine qQU (P:=fun c=>qQe (c.toNat:Int)=some ((alphaB c,()),())) ?_ c
 decide +kernel
theorem qJd (c:UInt8):letterB c=(alphaB c||c==95||c==36||c==33):=rfl
theorem qVav (c:UInt8):decide ((c.toNat:Int) < 48)=!decide (48<=c):=by
 refine qQU (P:=fun c=>decide ((c.toNat:Int) < 48)=!decide (48<=c)) ?_ c
 decide +kernel
theorem qEaw (c:UInt8):decide ((c.toNat:Int) > 57)=!decide (c<=57):=by
 refine qQU (P:=fun c=>decide ((c.toNat:Int) > 57)=!decide (c<=57)) ?_ c
 decide +kernel
theorem qMav (c:UInt8):((c.toNat:Int)==95)=(c==95):=by
 refine qQU (P:=fun c=>((c.toNat:Int)==95)=(c==95)) ?_ c
 decide +kernel
theorem qHaw (c:UInt8):((c.toNat:Int)==36)=(c==36):=by
 refine qQU (P:=fun c=>((c.toNat:Int)==36)=(c==36)) ?_ c
 decide +kernel
theorem qLaw (c:UInt8):((c.toNat:Int)==33)=(c==33):=by
 refine qQU (P:=fun c=>((c.toNat:Int)==33)=(c==33)) ?_ c
 decide +kernel
theorem qQao {l:List qBs} {s:qBs} (hl:l.length<=1000000000):r_in l s=some ((decide (s∈l),()),()):=by
 have key:=qOG (step:=qBi) (fun k=>(l,s,false,(k:Int),())) (fun k=>(l,s,true,(k:Int),())) l.length (E:=.exit 0) (B:=.ret) (by simp) (by simp) (fun k=>!(l.getD k []==s)) (fun k hk=>by
  unfold qBi
  simp only
  rw[qGA (by omega),qEA,qBA (by omega),qBA (by omega),qZ0,w64 (x:=(k:Int)+1) (by omega)]
  cases (l.getD k []==s)<;>rfl) (by
  unfold qBi
  simp only
  rw[qJA (by omega)])
 rw[qHM l [] (fun x=>!(x==s))] at key
 rw[show ((0:Nat):Int)=0 from rfl] at key
 unfold r_in
 rcases key with ⟨k1,k2⟩ | ⟨k1,j,k2⟩
 ·rw[k2]
  simp only[qAA,qHB,qOA]
  rw[qZ9]
  intro h
  have:=List.all_eq_true.1 k1 s h
  simp at this
 ·rw[k2]
  simp only[qAA,qQC,qNC,qOA,qVA]
  rw[qZ10]
  by_cases h:s∈l
  ·exact h
  ·rw[List.all_eq_true.2 (fun x hx=>by simp;exact fun e=>h (e ▸ hx))] at k1;cases k1
theorem qLn:qSb=some ((qRk,()),()):=rfl
theorem qMaa {s:qBs} (h:s≠[]):(List.range s.length).all (fun k=>if k=0 then letterB (s.getD 0 0) else qAn (s.getD k 0))=(letterB (s.getD 0 0)&&s.all qAn):=by
 have hpos:0 < s.length:=List.length_pos_iff.2 h
 rw[<-qHM s 0 qAn,Bool.eq_iff_iff,qY0,qY3,qY3]
 constructor
 ·intro hh
  have h0:=hh 0 (List.mem_range.2 hpos)
  simp only[if_true] at h0
  refine ⟨h0,fun k hk=>?_⟩
  have hk':=hh k hk
  by_cases e:k=0
  ·subst e
   unfold qAn
   rw[h0];rfl
  ·rw[if_neg e] at hk';exact hk'
 ·rintro ⟨h0,hh⟩ k hk
  split
  ·exact h0
  ·exact hh k hk
theorem qOaf (s:qBs):qFp s=some ((qVi s,()),()):=by
 unfold qFp
 by_cases h0:s=[]
 ·subst h0;decide
 ·rw[show (s==([]:qBs))=false by simpa using h0,qVA]
  have hpos:0 < s.length:=List.length_pos_iff.2 h0
  unfold qVi
  by_cases h1:s.length<=40
  ·rw[qJA (by omega),qZ10 h1,qLn,qAA]
   simp only
   rw[qQao (by decide),qAA,Bool.true_and]
   cases hw:decide (s∈qRk) with
   |true=>cases letterB (s.getD 0 0)<;>rfl
   |false=>
    simp only[qVA]
    have key:=qOG (step:=qGV) (fun k=>(s,false,(k:Int),())) (fun k=>(s,false,(k:Int),())) s.length (E:=.exit 0) (B:=.ret) (by simp) (by simp) (fun k=>if k=0 then letterB (s.getD 0 0) else qAn (s.getD k 0)) (fun k hk=>by
     unfold qGV
     simp only
     rw[qGA (by omega),qEA,qBA (by omega),qBA (by omega),qZ0,qEr,qAA,qVav,qEaw,qBau,qYat,qMav,qHaw,qLaw,w64 (x:=(k:Int)+1) (by omega)]
     by_cases hk0:k=0
     ·subst hk0
      rw[if_pos rfl,qJd]
      generalize alphaB (s.getD 0 0)=a
      generalize (s.getD 0 0==95)=b
      generalize (s.getD 0 0==36)=c
      generalize (s.getD 0 0==33)=d
      cases a<;>cases b<;>cases c<;>cases d<;>rfl
     ·rw[if_neg hk0]
      unfold qAn
      rw[qJd,qDA (show (k:Int)≠0 by omega)]
      generalize alphaB (s.getD k 0)=a
      generalize (s.getD k 0==95)=b
      generalize (s.getD k 0==36)=c
      generalize (s.getD k 0==33)=d
      generalize decide (48<=s.getD k 0)=e
      generalize decide (s.getD k 0<=57)=f
      generalize (s.getD k 0==46)=g
      generalize (s.getD k 0==64)=h
      cases a<;>cases b<;>cases c<;>cases d<;>cases e<;>cases f<;>cases g<;>cases h<;>rfl) (by
     unfold qGV
     simp only
     rw[qJA (by omega)])
    rw[qMaa h0] at key
    rcases key with ⟨k1,k2⟩ | ⟨k1,j,k2⟩
    ·rw[show ((0:Nat):Int)=0 from rfl] at k2
     rw[k2]
     simp only[qAA,qHB,qOA,qY1,Bool.and_true]
     rw[k1]
    ·rw[show ((0:Nat):Int)=0 from rfl] at k2
     rw[k2]
     simp only[qAA,qQC,qNC,qOA,qVA,qY1,Bool.and_true]
     rw[k1]
  ·rw[qGA (by omega),qZ9 h1]
   rfl
theorem qPs (s:Int):qPe s=some ((decide (1<=s/\s<=4),()),()):=qUh s
theorem qXu {n:Nod} (h:(qQT n).length<=100000):qEf n=some ((qRC n,()),()):=by
 obtain ⟨o,s,nm,num,kd⟩:=n
 simp only[qQT] at h
 unfold qEf qRC
 simp only[nOp,qGG,qCP,qQT]
 rw[qPs,qOaf,qLJ (by omega),qTZ (by omega),qFS (by omega)]
 simp only[qAA,qUad]
 by_cases e3:o=3
 ·rw[qFA e3,if_pos e3]
  by_cases h2:s=2
  ·subst h2
   cases decide (nm=[])<;>cases isI num<;>rfl
  ·rw[qDA h2,qZ9 h2,Bool.false_and,Bool.false_or]
   by_cases h3:s=3
   ·subst h3;cases decide (nm=[])<;>rfl
   ·rw[qDA h3,qZ9 h3,Bool.false_and];cases decide (nm=[])<;>rfl
 ·rw[qDA e3,if_neg e3]
  by_cases e4:o=4
  ·rw[qFA e4,if_pos (.inl e4)];cases decide (1<=s/\s<=4)<;>cases qVi nm<;>cases decide (num=[])<;>rfl
  ·rw[qDA e4]
   by_cases e5:o=5
   ·rw[qFA e5,if_pos (.inr e5)];cases decide (1<=s/\s<=4)<;>cases qVi nm<;>cases decide (num=[])<;>rfl
   ·rw[qDA e5,if_neg (by omega)]
    by_cases e6:o=16
    ·rw[qFA e6,if_pos (.inl e6)]
     by_cases z:s=0
     ·rw[qFA z,qZ10 z];cases decide (nm=[])<;>cases isI num<;>rfl
     ·rw[qDA z,qZ9 z];rfl
    ·rw[qDA e6]
     by_cases e7:o=17
     ·rw[qFA e7,if_pos (.inr e7)]
      by_cases z:s=0
      ·rw[qFA z,qZ10 z];cases decide (nm=[])<;>cases isI num<;>rfl
      ·rw[qDA z,qZ9 z];rfl
     ·rw[qDA e7,if_neg (by omega)]
      by_cases g1:o>=1
      ·rw[qGA g1]
       by_cases g2:o<=20
       ·rw[qGA g2,qZ10 (show 1<=o/\o<=20 from ⟨g1,g2⟩)]
        by_cases z:s=0
        ·rw[qFA z,qZ10 z];cases decide (nm=[])<;>rfl
        ·rw[qDA z,qZ9 z];rfl
       ·rw[qJA g2,qZ9 (by omega)];rfl
      ·rw[qJA g1,qZ9 (by omega)];rfl
theorem qDab (o k:Int):qPf o k=some ((qXA o k,()),()):=by
 by_cases h1:o=1;· subst h1;rfl
 by_cases h2:o=2;· subst h2;rfl
 by_cases h3:o=3;· subst h3;rfl
 by_cases h4:o=4;· subst h4;rfl
 by_cases h5:o=5
 ·subst h5
  have e:qXA 5 k=decide (1<=k/\k<=40):=rfl
  rw[e]
  unfold qPf
  rw[qDA (by decide),qDA (by decide),qDA (by decide),qDA (by decide),qFA rfl]
  by_cases g:k>=1
  ·rw[qGA g]
   have:decide (k<=40)=decide (1<=k/\k<=40):=by rw[decide_eq_decide];omega
   rw[this]
  ·rw[qJA g,qZ9 (by omega)]
 by_cases h6:o=6;· subst h6;rfl
 by_cases h16:o=16;· subst h16;rfl
 by_cases h17:o=17;· subst h17;rfl
 by_cases h20:o=20;· subst h20;rfl
 by_cases h7:o=7;· subst h7;rfl
 by_cases h8:o=8;· subst h8;rfl
 by_cases h10:o=10;· subst h10;rfl
 by_cases h19:o=19;· subst h19;rfl
 by_cases h14:o=14;· subst h14;rfl
 unfold qPf qXA
 rw[qDA h1,qDA h2,qDA h3,qDA h4,qDA h5,qDA h6,qDA h16,qDA h17,qDA h20,qDA h7,qDA h8,qDA h10,qDA h19,qDA h14,
  if_neg (by omega),if_neg h5,if_neg (by omega),if_neg (by omega),if_neg h14,if_neg (by omega)]
 rfl
theorem qCag {ss:List Int} {s out:Int} (hl:ss.length<=1000000000):qUP ss s out=some ((if ∀ x∈ss,x=s then out else 0,()),()):=by
 have key:=qOG (step:=qPV) (fun k=>(ss,s,out,(0:Int),(k:Int),())) (fun k=>(ss,s,out,(0:Int),(k:Int),())) ss.length (E:=.exit 0) (B:=.ret) (by simp) (by simp) (fun k=>decide (ss.getD k 0=s)) (fun k hk=>by
  unfold qPV
  simp only
  rw[qGA (by omega),qEA,qBA (by omega),qBA (by omega),qZ0,w64 (x:=(k:Int)+1) (by omega)]
  by_cases h:ss.getD k 0=s
  ·rw[qID h,if_pos (qZ10 h)];rfl
  ·rw[qDE h,if_neg (fun e=>h (of_decide_eq_true e))]) (by
  unfold qPV
  simp only
  rw[qJA (by omega)])
 rw[qHM ss 0 (fun x=>decide (x=s))] at key
 rw[show ((0:Nat):Int)=0 from rfl] at key
 unfold qUP
 rcases key with ⟨k1,k2⟩ | ⟨k1,j,k2⟩
 ·rw[k2]
  simp only[qAA,qHB,qOA]
  rw[if_pos (by simpa [qY3] using k1)]
 ·rw[k2]
  simp only[qAA,qQC,qNC,qOA,qVA]
  rw[if_neg (fun h=>by rw[List.all_eq_true.2 (fun x hx=>qZ10 (h x hx))] at k1;cases k1)]
theorem qVf {n:Nod} {f:Int} {ss:List Int} (ho:1<=nOp n/\nOp n<=20) (hl:ss.length<=1000000000) (hc:qXA (nOp n) ss.length=true) (h15:nOp n=15->f=3->ss.getD 0 0=2\/ss.getD 0 0=3):qDb n f ss=some ((qDD n f ss,()),()):=by
 obtain ⟨o,s,nm,num,kd⟩:=n
 simp only[nOp] at ho hc h15
 have hnum:∀ s,qLV s=some ((decide (s=2\/s=3),()),()):=qEd
 unfold qDb qDD
 simp only[nOp,qGG,qCag hl,hnum,qAA,show (0:Int).toNat=0 from rfl,show (1:Int).toNat=1 from rfl,show (2:Int).toNat=2 from rfl]
 by_cases h1:o=1
 ·subst h1
  rcases ss with _ | ⟨a,l⟩<;>simp[qXA] at hc
  ·simp
  ·omega
 rw[qDA h1]
 by_cases h2:o=2
 ·subst h2
  rcases ss with _ | ⟨a,l⟩<;>simp[qXA] at hc
  ·simp
  ·omega
 rw[qDA h2]
 by_cases h3:o=3;· rw[qFA h3,if_pos (.inl h3)]
 rw[qDA h3]
 by_cases h4:o=4;· rw[qFA h4,if_pos (.inr (.inl h4))]
 rw[qDA h4]
 by_cases h5:o=5;· rw[qFA h5,if_pos (.inr (.inr h5))]
 rw[qDA h5,if_neg (show ¬ (o=3\/o=4\/o=5) by omega)]
 by_cases h6:o=6;· rw[qFA h6,if_pos (show o=1\/o=2\/o=6\/o=7\/o=8\/o=9 by omega)]
 rw[qDA h6]
 by_cases h7:o=7;· rw[qFA h7,if_pos (show o=1\/o=2\/o=6\/o=7\/o=8\/o=9 by omega)]
 rw[qDA h7]
 by_cases h8:o=8;· rw[qFA h8,if_pos (show o=1\/o=2\/o=6\/o=7\/o=8\/o=9 by omega)]
 rw[qDA h8]
 by_cases h9:o=9;· rw[qFA h9,if_pos (show o=1\/o=2\/o=6\/o=7\/o=8\/o=9 by omega)]
 rw[qDA h9,if_neg (show ¬ (o=1\/o=2\/o=6\/o=7\/o=8\/o=9) by omega)]
 by_cases h10:o=10
 ·subst h10
  rcases ss with _ | ⟨a,_ | ⟨b,_ | ⟨c,_ | ⟨d,l⟩⟩⟩⟩<;>simp[qXA] at hc
  ·by_cases q:a=1
   ·by_cases q2:b=c
    ·simp[grd,q,q2]
    ·simp[grd,q,q2,show (b==c)=false by simpa using q2]
   ·simp[grd,q,show (a==1)=false by simpa using q]
  ·omega
 rw[qDA h10,if_neg h10]
 by_cases h11:o=11
 ·subst h11
  rcases ss with _ | ⟨a,_ | ⟨b,_ | ⟨c,l⟩⟩⟩<;>simp[qXA] at hc
  ·by_cases q:b=a
   ·simp[grd,q]
   ·simp[grd,q]
    exact fun e=>q e.symm
  ·omega
 rw[qDA h11,if_neg h11]
 by_cases h12:o=12
 ·subst h12
  rcases ss with _ | ⟨a,_ | ⟨b,_ | ⟨c,l⟩⟩⟩<;>simp[qXA] at hc
  ·by_cases q:a=2\/a=3<;>simp[grd,q]
  ·omega
 rw[qDA h12]
 by_cases h13:o=13
 ·subst h13
  rcases ss with _ | ⟨a,_ | ⟨b,_ | ⟨c,l⟩⟩⟩<;>simp[qXA] at hc
  ·by_cases q:a=2\/a=3<;>simp[grd,q]
  ·omega
 rw[qDA h13,if_neg (show ¬ (o=12\/o=13) by omega)]
 by_cases h14:o=14
 ·subst h14
  rcases ss with _ | ⟨a,l⟩<;>simp[qXA] at hc
  by_cases q:a=2\/a=3<;>simp[grd,q]
 rw[qDA h14,if_neg h14]
 by_cases h15':o=15
 ·subst h15'
  have h15:=h15 rfl
  rcases ss with _ | ⟨a,_ | ⟨b,_ | ⟨c,l⟩⟩⟩<;>simp[qXA] at hc
  ·by_cases q:f=3
   ·have:=h15 q
    simp at this
    simp[grd,q,this]
   ·simp[q,show (f==3)=false by simpa using q]
  ·omega
 rw[qDA h15',if_neg h15']
 by_cases h16:o=16
 ·subst h16
  rcases ss with _ | ⟨a,_ | ⟨b,l⟩⟩<;>simp[qXA] at hc
  ·simp
  ·omega
 rw[qDA h16]
 by_cases h17:o=17
 ·subst h17
  rcases ss with _ | ⟨a,_ | ⟨b,l⟩⟩<;>simp[qXA] at hc
  ·simp
  ·omega
 rw[qDA h17,if_neg (show ¬ (o=16\/o=17) by omega)]
 by_cases h20:o=20
 ·subst h20
  rcases ss with _ | ⟨a,_ | ⟨b,l⟩⟩<;>simp[qXA] at hc
  ·simp
  ·omega
 rw[qDA h20]
 by_cases h18:o=18
 ·subst h18
  rcases ss with _ | ⟨a,_ | ⟨b,_ | ⟨c,l⟩⟩⟩<;>simp[qXA] at hc
  ·by_cases q:a=4
   ·by_cases q2:b=2
    ·simp[grd,q,q2]
    ·simp[grd,q,q2,show (b==2)=false by simpa using q2]
   ·simp[grd,q,show (a==4)=false by simpa using q]
  ·omega
 rw[qDA h18,if_neg h18]
 obtain rfl:o=19:=by omega
 rcases ss with _ | ⟨a,_ | ⟨b,_ | ⟨c,_ | ⟨d,l⟩⟩⟩⟩<;>simp[qXA] at hc
 ·by_cases q:a=4
  ·by_cases q2:b=2
   ·by_cases q3:c=2
    ·simp[grd,q,q2,q3]
    ·simp[grd,q,q2,q3,show (c==2)=false by simpa using q3]
   ·simp[grd,q,q2,show (b==2)=false by simpa using q2]
  ·simp[grd,q,show (a==4)=false by simpa using q]
 ·omega
theorem qOq {n:Nod} (h:qRC n=true):1<=nOp n/\nOp n<=20:=by
 unfold qRC at h
 split at h
 ·omega
 ·split at h
  ·omega
  ·split at h
   ·omega
   ·simp only[qY0,decide_eq_true_eq] at h
    exact h.1.1.1
theorem qHs {n:Nod} (h:qRC n=true) (ho:nOp n=3\/nOp n=4\/nOp n=5):1<=qGG n/\qGG n<=4:=by
 unfold qRC at h
 split at h
 ·simp only[qY0,Bool.or_eq_true,decide_eq_true_eq] at h
  rcases h.2 with h | h<;>omega
 ·rw[if_pos (by omega)] at h
  simp only[qY0,decide_eq_true_eq] at h
  exact h.1.1
theorem qSz {ss:List Int} (h:∀ s∈ss,0<=s/\s<=4) (i:Nat):0<=ss.getD i 0/\ss.getD i 0<=4:=by
 rw[qZ4]
 cases hi:ss[i]? with
 |none=>simp
 |some s=>exact h s (qY14 hi)
theorem qDr {n:Nod} {f:Int} {ss:List Int} (hf:qRC n=true) (h:∀ s∈ss,0<=s/\s<=4):0<=qDD n f ss/\qDD n f ss<=4:=by
 have g:=qSz h
 have g0:=g 0
 have g1:=g 1
 unfold qDD
 by_cases c0:nOp n=3\/nOp n=4\/nOp n=5
 ·rw[if_pos c0];have:=qHs hf c0;omega
 rw[if_neg c0]
 by_cases c1:nOp n=1\/nOp n=2\/nOp n=6\/nOp n=7\/nOp n=8\/nOp n=9
 ·rw[if_pos c1];split<;>omega
 rw[if_neg c1]
 by_cases c2:nOp n=10
 ·rw[if_pos c2];split<;>omega
 rw[if_neg c2]
 by_cases c3:nOp n=11
 ·rw[if_pos c3];split<;>omega
 rw[if_neg c3]
 by_cases c4:nOp n=12\/nOp n=13
 ·rw[if_pos c4];split<;>omega
 rw[if_neg c4]
 by_cases c5:nOp n=14
 ·rw[if_pos c5];split<;>omega
 rw[if_neg c5]
 by_cases c6:nOp n=15
 ·rw[if_pos c6];split<;>omega
 rw[if_neg c6]
 by_cases c7:nOp n=16\/nOp n=17
 ·rw[if_pos c7];split<;>omega
 rw[if_neg c7]
 by_cases c8:nOp n=18
 ·rw[if_pos c8];split<;>omega
 rw[if_neg c8]
 by_cases c9:nOp n=19
 ·rw[if_pos c9];split<;>omega
 rw[if_neg c9]
 by_cases c10:nOp n=20
 ·rw[if_pos c10];split<;>omega
 rw[if_neg c10];omega
theorem qOp:∀ (f:Tf),f.wf=true->∀ s∈f.srt,0<=s/\s<=4:=by
 intro f
 induction f with
 |nil=>intro _ s hs;simp[srt] at hs
 |cons n k r ik ir=>
  intro hw s hs
  obtain ⟨w1,w2,w3,w4⟩:=qWH.1 hw
  simp only[srt,qY12] at hs
  rcases hs with rfl | hs
  ·split
   ·omega
   ·exact qDr (qFV.1 w1).1 (ik w3)
  ·exact ir w4 s hs
noncomputable def qWX (d L:Nat) (l:List Nod):Int×Int:=match one d l with
 |none=>(-1,0)
 |some (T,l')=>((L:Int) - (l'.length:Int),T.srt.getD 0 0)
abbrev TrF:=List Nod->Int->Int->Option ((Int×Int×Unit)×Unit)
def qJan (t:List Nod) (tr:TrF) (dp:Nat):Prop:=∀ i:Nat,tr t (i:Int) (dp:Int)=some (((qWX (257 - dp) t.length (t.drop i)).1,(qWX (257 - dp) t.length (t.drop i)).2,()),())
theorem qJag {d:Nat} {l l':List Nod} {T:Tf} (h:one d l=some (T,l')):T.size+l'.length=l.length/\T.srt.length=1:=by
 obtain ⟨h1,h2,h3,h4⟩:=qEZ d h
 have:=congrArg List.length h1
 rw[qZ6,qMC] at this
 exact ⟨this.symm,by rw[qKM,h3]⟩
theorem qAw {d i:Nat} {t l':List Nod} {T:Tf} (h:one d (t.drop i)=some (T,l')) (hi:i<=t.length):t.drop (i+T.size)=l'/\i+T.size<=t.length/\(t.length:Int) - (l'.length:Int)=((i+T.size:Nat):Int):=by
 obtain ⟨h1,_,_,_⟩:=qEZ d h
 have h2:=(qJag h).1
 rw[List.length_drop] at h2
 refine ⟨?_,by omega,by omega⟩
 rw[<-List.drop_drop,h1,List.drop_append_of_le_length (by rw[qMC];omega),qY7 (by rw[qMC];omega),qY15]
theorem qPab {t:List Nod} (ht:t.length<=20000) {tr:TrF} {dp:Nat} (hdp:dp<=256) (htr:qJan t tr (dp+1)) {i:Nat} (hi:i < t.length) {K:Int} (hK:(t.getD i qPE).2.2.2.2=K) :
 ∀ (c:Nat) (e k:Nat) (s:List Int) (good:Bool),e<=t.length->((k+c:Nat):Int)=K->s.length=k->k+c<=20000->
 match many (one (257 - (dp+1))) c (t.drop e) with
 |none=>∃ y,qPA (qMN tr) (t,(i:Int),(dp:Int),0,0,s,(e:Int),good,(k:Int),())=some (.ret,(t,(i:Int),(dp:Int),-1,0,y))
 |some (F,l')=>qPA (qMN tr) (t,(i:Int),(dp:Int),0,0,s,(e:Int),good,(k:Int),())=some (.exit 0,(t,(i:Int),(dp:Int),0,0,s++F.srt,(t.length:Int) - (l'.length:Int),good&&F.srt.all (fun x=>decide (x > 0)),K,())):=by
 intro c
 induction c with
 |zero=>
  intro e k s good he hk _ _
  simp only[many]
  refine qUA ?_ (by simp)
  unfold qMN
  simp only
  rw[qEA,qBA (by omega),qBA (by omega),qZ0,hK,qJA (by omega)]
  have e1:(t.length:Int) - ((t.drop e).length:Int)=(e:Int):=by rw[List.length_drop];omega
  have e2:K=(k:Int):=by omega
  rw[e1,e2]
  simp[srt]
 |succ c ih=>
  intro e k s good he hk hs hb
  have hcall:=htr e
  simp only[many]
  have hstep0:qMN tr (t,(i:Int),(dp:Int),0,0,s,(e:Int),good,(k:Int),())=(tr t (e:Int) (qI ((dp:Int)+1))).bind fun r1=>
   cond (decide (r1.1.1 < (0:Int))) (some (Ex.ret,(t,(i:Int),(dp:Int),-1,0,s,r1.1.1,good,(k:Int),())))
    (cond good (grd (decide (s.length+([r1.1.2.1]:List Int).length<=qKF)) (some (Ex.normal,(t,(i:Int),(dp:Int),0,0,s++([r1.1.2.1]:List Int),r1.1.1,decide (r1.1.2.1 > (0:Int)),qI ((k:Int)+(1:Int)),()))))
    (grd (decide (s.length+([r1.1.2.1]:List Int).length<=qKF)) (some (Ex.normal,(t,(i:Int),(dp:Int),0,0,s++([r1.1.2.1]:List Int),r1.1.1,false,qI ((k:Int)+(1:Int)),()))))):=by
   unfold qMN
   simp only
   rw[qEA,qBA (by omega),qBA (by omega),qZ0,hK,qGA (by omega)]
  have hwd:qI ((dp:Int)+1)=((dp+1:Nat):Int):=by rw[w64 (by omega)];rfl
  rw[hwd] at hstep0
  cases ho:one (257 - (dp+1)) (t.drop e) with
  |none=>
   have hcall':tr t (e:Int) ((dp+1:Nat):Int)=some ((-1,0,()),()):=by rw[hcall];unfold qWX;rw[ho]
   rw[hcall',qAA] at hstep0
   rw[qGA (show (-1:Int) < 0 by omega)] at hstep0
   simp only[Option.bind_none]
   exact ⟨_,qUA hstep0 (by simp)⟩
  |some x=>
   obtain ⟨T,l1⟩:=x
   obtain ⟨q1,q2⟩:=qJag ho
   obtain ⟨d1,d2,d3⟩:=qAw ho he
   obtain ⟨x,hx⟩:∃ x,T.srt=[x]:=by
    match h:T.srt,q2 with
    |[x],_=>exact ⟨x,rfl⟩
   have hcall':tr t (e:Int) ((dp+1:Nat):Int)=some ((((e+T.size:Nat):Int),x,()),()):=by
    rw[hcall];unfold qWX;rw[ho];simp only;rw[hx,d3];rfl
   rw[hcall',qAA] at hstep0
   rw[qJA (show ¬ ((e+T.size:Nat):Int) < 0 by omega)] at hstep0
   have hlen:s.length+1<=qKF:=by simp only[qKF];omega
   have hgo:qMN tr (t,(i:Int),(dp:Int),0,0,s,(e:Int),good,(k:Int),())=some (.normal,(t,(i:Int),(dp:Int),0,0,s++[x],((e+T.size:Nat):Int),good&&decide (x > 0),((k+1:Nat):Int),())):=by
    rw[hstep0,w64 (x:=(k:Int)+1) (by omega)]
    cases good
    ·simp only[qVA,Bool.false_and];rw[qBA (by simpa using hlen)];rfl
    ·simp only[qOA,Bool.true_and];rw[qBA (by simpa using hlen)];rfl
   have ih':=ih (e+T.size) (k+1) (s++[x]) (good&&decide (x > 0)) d2 (by omega) (by simp[hs]) (by omega)
   simp only[Option.bind_some]
   rw[d1] at ih'
   cases hm:many (one (257 - (dp+1))) c l1 with
   |none=>
    rw[hm] at ih'
    obtain ⟨y,hy⟩:=ih'
    simp only[Option.bind_none]
    exact ⟨y,by rw[qAB hgo,hy]⟩
   |some z=>
    obtain ⟨F,l'⟩:=z
    rw[hm] at ih'
    simp only[Option.bind_some] at ih' ⊢
    rw[qAB hgo,ih',qNc,hx]
    simp[Bool.and_assoc]
theorem qBal {f:Tf} (hw:f.wf=true):f.srt.all (fun x=>decide (x > 0))=!decide (0∈f.srt):=by
 have h:=qOp f hw
 generalize f.srt=l at h
 induction l with
 |nil=>rfl
 |cons a l ih=>
  have ha:=h a (by simp)
  rw[List.all_cons,ih fun s hs=>h s (by simp[hs])]
  by_cases h0:a=0
  ·subst h0;simp
  ·rw[qZ10 (show a > 0 by omega)]
   have:(0:Int)∈a::l ↔ 0∈l:=by simp;omega
   simp only[this,Bool.true_and]
theorem qZaf {t:List Nod} (hs:qLS t) (ht:t.length<=20000):∀ (f dp:Nat),dp<=257->258<=f+dp->qJan t (qHb f) dp:=by
 intro f
 induction f with
 |zero=>intro dp h1 h2;omega
 |succ f ih=>
  intro dp h1 h2 i
  have hunf:qHb (f+1) t (i:Int) (dp:Int)=qCf (qHb f) t (i:Int) (dp:Int):=rfl
  rw[hunf]
  unfold qCf
  by_cases hi:i>=t.length
  ·rw[qGA (by omega)]
   unfold qWX
   have e:t.drop i=[]:=qY7 hi
   rw[e]
   cases h:257 - dp<;>rfl
  rw[qJA (by omega)]
  by_cases hd:dp=257
  ·rw[qGA (by omega)]
   unfold qWX
   have e:257 - dp=0:=by omega
   rw[e]
   rfl
  rw[qJA (by omega)]
  have hi':i < t.length:=by omega
  have hget:t.getD i qPE=t[i]:=by simp[qZ4,hi']
  have hdrop:=qY6 hi'
  have hnum:=hs _ (List.getElem_mem hi')
  have hd1:257 - dp=(257 - (dp+1))+1:=by omega
  have hone:one (257 - dp) (t.drop i)=if okN t[i]=true then (many (one (257 - (dp+1))) (qPF t[i]).toNat (t.drop (i+1))).bind fun x=>some (cons t[i] x.1 nil,x.2) else none:=by rw[hd1,hdrop];rfl
  generalize t[i]=n at hget hnum hone
  have hg:∀ (k:Option ((Int×Int×Unit)×Unit)),grd (decide (0<=(i:Int))&&decide ((i:Int) < (t.length:Int))) k=k:=fun k=>by rw[qEA,qBA (by omega),qBA (by omega)]
  rw[hg,qZ0,hget,qXu (by omega),qAA]
  have hno:okN n=false->qWX (257 - dp) t.length (t.drop i)=(-1,0):=fun h=>by
   unfold qWX
   rw[hone,if_neg (by rw[h];decide)]
  by_cases q3:qRC n=false
  ·rw[q3,hno (by unfold okN;rw[q3];rfl)];rfl
  rw[Bool.not_eq_false] at q3
  rw[q3]
  simp only[qY2,qVA]
  rw[hg,hg,qDab,qAA]
  by_cases q4:qXA n.1 n.2.2.2.2=false
  ·rw[q4,hno (by unfold okN;rw[q4,Bool.and_false])];rfl
  rw[Bool.not_eq_false] at q4
  rw[q4]
  simp only[qY2,qVA]
  rw[hg]
  have hok:okN n=true:=qFV.2 ⟨q3,q4⟩
  rw[if_pos hok] at hone
  have hk0:=qDR q4
  have hK:n.2.2.2.2=qPF n:=rfl
  rw[hK] at hk0 ⊢
  have hbound:∀ F l',many (one (257 - (dp+1))) (qPF n).toNat (t.drop (i+1))=some (F,l')->F.len=(qPF n).toNat/\F.wf=true/\t.drop (i+1)=F.flat++l'/\F.size+l'.length=t.length - (i+1):=by
   intro F l' hm
   obtain ⟨m1,m2,m3,m4⟩:=qDl (qEZ _) _ hm
   have:=congrArg List.length m1
   rw[qZ6,qMC,List.length_drop] at this
   exact ⟨m3,m2,m1,this.symm⟩
  by_cases q5:qPF n > (t.length:Int)
  ·rw[qGA q5]
   have hm:many (one (257 - (dp+1))) (qPF n).toNat (t.drop (i+1))=none:=by
    cases hm:many (one (257 - (dp+1))) (qPF n).toNat (t.drop (i+1)) with
    |none=>rfl
    |some x=>
     obtain ⟨F,l'⟩:=x
     obtain ⟨b1,b2,b3,b4⟩:=hbound F l' hm
     have:=qWK F
     omega
   unfold qWX
   rw[hone,hm]
   rfl
  rw[qJA q5]
  have hwi:qI ((i:Int)+1)=((i+1:Nat):Int):=by rw[w64 (by omega)];rfl
  have hl:=qPab ht (dp:=dp) (by omega) (ih (dp+1) (by omega) (by omega)) hi' (K:=qPF n) (by rw[hget]) (qPF n).toNat (i+1) 0 [] true (by omega) (by omega) rfl (by omega)
  rw[show ((0:Nat):Int)=0 from rfl] at hl
  rw[hwi]
  cases hm:many (one (257 - (dp+1))) (qPF n).toNat (t.drop (i+1)) with
  |none=>
   rw[hm] at hl hone
   obtain ⟨y,hy⟩:=hl
   rw[hy]
   simp only[qAA,qQC,qNC,qOA,qVA]
   unfold qWX
   rw[hone]
   rfl
  |some x=>
   obtain ⟨F,l'⟩:=x
   obtain ⟨b1,b2,b3,b4⟩:=hbound F l' hm
   rw[hm] at hl hone
   simp only at hl
   rw[hl]
   simp only[qAA,qHB,qOA,qY15,Bool.true_and]
   rw[qBal b2]
   simp only[Option.bind_some] at hone
   have htree:qWX (257 - dp) t.length (t.drop i)=((t.length:Int) - (l'.length:Int),if 0∈F.srt then 0 else qDD n (op1 F) F.srt):=by
    unfold qWX
    rw[hone]
    rfl
   rw[htree]
   by_cases h0:(0:Int)∈F.srt
   ·rw[qZ10 h0,if_pos h0];rfl
   rw[qZ9 h0,if_neg h0]
   simp only[qY1,qY2,qVA]
   have hop:=qOq q3
   have hcl:qXA (nOp n) (F.srt.length:Int)=true:=by
    have e:(F.srt.length:Int)=qPF n:=by rw[qKM,b1];omega
    rw[e];exact q4
   have hsl:F.srt.length<=1000000000:=by rw[qKM];have:=qWK F;omega
   cases F with
   |nil=>
    rw[qJA (by simp[srt]),hg,qZ0,hget,qVf (f:=0) hop hsl hcl (fun _ h=>by omega),qAA]
    rfl
   |cons n1 k1 r1=>
    have hb:t.drop (i+1)=n1::(k1.flat++r1.flat++l'):=by rw[b3];simp[flat]
    obtain ⟨g1,g2⟩:=qIK (d:=qPE) hb
    obtain ⟨w1,w2,w3,w4⟩:=qWH.1 b2
    obtain ⟨s1,s2,s3⟩:=qVI.1 h0
    rw[qGA (by simp[srt]),hwi,qEA,qBA (by omega),qBA (by omega),hg,qZ0,qZ0,hget,g1]
    rw[qVf (f:=n1.1) hop hsl hcl (fun _ h=>by
     have hsrt:(cons n1 k1 r1).srt.getD 0 0=qDD n1 (op1 k1) k1.srt:=by
      simp only[srt,qZ3]
      rw[if_neg s1]
     rw[hsrt]
     have h3:nOp n1=3:=h
     have:qDD n1 (op1 k1) k1.srt=qGG n1:=by unfold qDD;rw[if_pos (.inl h3)]
     rw[this]
     exact (qKt (qFV.1 w1).1 h3).1),qAA]
    rfl
theorem qEx:∃ f,big=f/\258<=f:=⟨big,rfl,by decide⟩
theorem qMai {t rest:List Nod} {at':Nat} {n:Nod} {k r:Tf} (hd:t.drop at'=(cons n k r).flat++rest) (hw:(cons n k r).wf=true) (hdep:(cons n k r).dep<=257):one 257 (t.drop at')=some (cons n k nil,r.flat++rest):=by
 obtain ⟨w1,w2,w3,w4⟩:=qWH.1 hw
 have e:(cons n k r).flat++rest=(cons n k nil).flat++(r.flat++rest):=by simp[flat]
 rw[hd,e]
 exact qRw _ (qWH.2 ⟨w1,w2,w3,rfl⟩) rfl (by simp only[dep] at hdep ⊢;omega)
theorem qAar {t:List Nod} (hs:qLS t) (ht:t.length<=20000) {p:Nat} (hp:p < t.length) {K:Int} (hK:(t.getD p qPE).2.2.2.2=K):∀ (r:Tf) (at':Nat) (rest:List Nod) (out:List Int) (idx:Nat),t.drop at'=r.flat++rest->r.wf=true->r.dep<=257->((idx+r.len:Nat):Int)=K->idx+r.len<=20000->out.length=idx->
 ∃ y,qPA qDH (t,(p:Int),out,(at':Int),(idx:Int),())=some (.exit 0,(t,(p:Int),out++r.srt,y)):=by
 intro r
 induction r with
 |nil=>
  intro at' rest out idx _ _ _ hk _ _
  simp only[len,Nat.add_zero] at hk
  refine ⟨_,qUA (y:=(t,(p:Int),out++[],(at':Int),(idx:Int),())) ?_ (by simp)⟩
  unfold qDH
  simp only
  rw[qEA,qBA (by omega),qBA (by omega),qZ0,hK,qJA (by omega),qY4]
 |cons n k r _ ir=>
  intro at' rest out idx hd hw hdep hk hb ho
  obtain ⟨w1,w2,w3,w4⟩:=qWH.1 hw
  have hone:=qMai hd hw hdep
  obtain ⟨f,hf1,hf2⟩:=qEx
  have htr:=qZaf hs ht f 0 (by omega) (by omega) at'
  rw[show ((0:Nat):Int)=0 from rfl] at htr
  have hat:at'<=t.length:=by
   rcases Nat.lt_or_ge t.length at' with h | h
   ·rw[qY7 (by omega)] at hd
    simp[flat] at hd
   ·exact h
  obtain ⟨d1,d2,d3⟩:=qAw hone hat
  have hts:qWX (257 - 0) t.length (t.drop at')=(((at'+(cons n k nil).size:Nat):Int),(cons n k nil).srt.getD 0 0):=by
   unfold qWX
   rw[show 257 - 0=257 from rfl,hone]
   simp only
   rw[d3]
  rw[hts] at htr
  simp only[len] at hk hb
  have hgo:qDH (t,(p:Int),out,(at':Int),(idx:Int),())=some (.normal,(t,(p:Int),out++[(cons n k nil).srt.getD 0 0],((at'+(cons n k nil).size:Nat):Int),((idx+1:Nat):Int),())):=by
   unfold qDH
   simp only
   rw[qEA,qBA (by omega),qBA (by omega),qZ0,hK,qGA (by omega),hf1,htr,qAA,qBA (by simp[qKF];omega),w64 (by omega)]
   rfl
  obtain ⟨y,hy⟩:=ir (at'+(cons n k nil).size) rest (out++[(cons n k nil).srt.getD 0 0]) (idx+1) d1 w4 (by simp only[dep] at hdep;omega) (by omega) (by omega) (by simp[ho])
  refine ⟨y,?_⟩
  rw[qAB hgo,hy]
  simp[srt]
theorem qEaq {t:List Nod} (hs:qLS t) (ht:t.length<=20000) {p:Nat} {n:Nod} {k:Tf} {rest:List Nod} (hd:t.drop p=n::(k.flat++rest)) (hn:qPF n=(k.len:Int)) (hw:k.wf=true) (hdep:k.dep<=257) (hk:k.size<=20000):qER t (p:Int)=some ((k.srt,()),()):=by
 obtain ⟨g1,g2⟩:=qIK (d:=qPE) hd
 have hkl:=qWK k
 have hd':t.drop (p+1)=k.flat++rest:=by
  have:=congrArg (List.drop 1) hd
  rw[List.drop_drop] at this
  simpa using this
 unfold qER
 obtain ⟨y,hy⟩:=qAar hs ht g2 (K:=(k.len:Int)) (by rw[g1];exact hn) k (p+1) rest [] 0 hd' hw hdep (by omega) (by omega) rfl
 rw[show ((0:Nat):Int)=0 from rfl] at hy
 rw[w64 (by omega)]
 have e:(p:Int)+1=((p+1:Nat):Int):=rfl
 rw[e,hy]
 simp only[qAA,qHB,qOA,qY15]
theorem qBae {a b:List Int} (ha:a.length<=2000000000):qWS a b=some ((decide (a=b),()),()):=by
 unfold qWS
 by_cases hl:a.length=b.length
 ·rw[qID (by omega)]
  have:=qOG (step:=qMK) (fun k=>(a,b,false,(k:Int),())) (fun k=>(a,b,false,(k:Int),())) a.length (E:=.exit 0) (B:=.ret) (by simp) (by simp) (fun k=>decide (a.getD k 0=b.getD k 0)) (fun k hk=>by
   unfold qMK
   simp only
   rw[qGA (by omega),qEA,qBA (by omega),qBA (by omega),qEA,qBA (by omega),qBA (by omega),qZ0,w64 (by omega)]
   by_cases h:a.getD k 0=b.getD k 0
   ·rw[qID h,if_pos (qZ10 h)];rfl
   ·rw[qDE h,if_neg (fun e=>h (of_decide_eq_true e))]) (by
   unfold qMK
   simp only
   rw[qJA (by omega)])
  rw[show ((0:Nat):Int)=0 from rfl] at this
  have heq:(List.range a.length).all (fun k=>decide (a.getD k 0=b.getD k 0))=decide (a=b):=by
   rw[Bool.eq_iff_iff,qY3,decide_eq_true_eq]
   constructor
   ·intro h
    refine List.ext_getElem hl fun k h1 h2=>?_
    have:=h k (List.mem_range.2 h1)
    simpa [qZ4,h1,h2] using this
   ·rintro rfl k _;simp
  rcases this with ⟨h1,h2⟩ | ⟨h1,k,h2⟩
  ·rw[h2,<-heq,h1];simp only[qAA,qHB,qOA]
  ·rw[h2,<-heq,h1];simp only[qAA,qQC,qNC,qOA,qVA]
 ·rw[qDE (by omega),qZ9 (fun e=>hl (by rw[e]))]
abbrev Fv:=qBs×List Int×Int
structure UI (us:List Us) (vars:List Vr) (funcs:List Fv):Prop where
 w:∀ a∈us,(a.2.1=false/\a.2.2.1=[])\/a.2.1=true
 c:∀ a∈us,∀ b∈us,a.1=b.1->a.2.1=b.2.1->a=b
 v1:∀ x∈vars,(x.1,false,[],x.2)∈us
 v2:∀ nm s,(nm,false,[],s)∈us->(nm,s)∈vars
 f1:∀ x∈funcs,(x.1,true,x.2.1,x.2.2)∈us
 f2:∀ nm a s,(nm,true,a,s)∈us->(nm,a,s)∈funcs
theorem UI.nil:UI [] [] []:=⟨fun a h=>absurd h qY16,fun a h=>absurd h qY16,fun a h=>absurd h qY16,fun _ _ h=>absurd h qY16,fun a h=>absurd h qY16,fun _ _ _ h=>absurd h qY16⟩
theorem UI.again {us:List Us} {vars:List Vr} {funcs:List Fv} (h:UI us vars funcs) {u:Us} (hu:u∈us):UI (us++[u]) vars funcs:=by
 have hm:∀ a,a∈us++[u] ↔ a∈us:=fun a=>by
  rw[qZ7,qZ8]
  exact ⟨fun h=>h.elim id fun e=>e ▸ hu,.inl⟩
 exact ⟨fun a ha=>h.w a ((hm a).1 ha),fun a ha b hb=>h.c a ((hm a).1 ha) b ((hm b).1 hb),fun x hx=>(hm _).2 (h.v1 x hx),fun nm s hx=>h.v2 nm s ((hm _).1 hx),fun x hx=>(hm _).2 (h.f1 x hx),fun nm a s hx=>h.f2 nm a s ((hm _).1 hx)⟩
theorem UI.snoc_c {us:List Us} {vars:List Vr} {funcs:List Fv} (h:UI us vars funcs) {u:Us} (hu:∀ a∈us,a.1=u.1->a.2.1=u.2.1->a=u):∀ a∈us++[u],∀ b∈us++[u],a.1=b.1->a.2.1=b.2.1->a=b:=by
 intro a ha b hb e1 e2
 rcases List.mem_append.1 ha with ha1 | ha1
 ·rcases List.mem_append.1 hb with hb1 | hb1
  ·exact h.c a ha1 b hb1 e1 e2
  ·rw[qZ8] at hb1
   rw[hb1] at e1 e2 ⊢
   exact hu a ha1 e1 e2
 ·rw[qZ8] at ha1
  rw[ha1] at e1 e2 ⊢
  rcases List.mem_append.1 hb with hb1 | hb1
  ·exact (hu b hb1 e1.symm e2.symm).symm
  ·rw[qZ8] at hb1;exact hb1.symm
theorem UI.addV {us:List Us} {vars:List Vr} {funcs:List Fv} (h:UI us vars funcs) {nm:qBs} {s:Int} (hn:∀ x∈vars,x.1≠nm):UI (us++[(nm,false,[],s)]) (vars++[(nm,s)]) funcs:=by
 refine ⟨fun a ha=>?_,h.snoc_c fun a ha e1 e2=>?_,fun x hx=>?_,fun m x hx=>?_,fun x hx=>List.mem_append_left _ (h.f1 x hx),fun m a x hx=>?_⟩
 ·rcases List.mem_append.1 ha with ha | ha
  ·exact h.w a ha
  ·rw[qZ8] at ha;subst ha;exact .inl ⟨rfl,rfl⟩
 ·exfalso
  obtain ⟨m,b,l,z⟩:=a
  simp only at e1 e2
  subst e1;subst e2
  rcases h.w _ ha with ⟨_,q⟩ | q
  ·simp only at q;subst q
   exact hn _ (h.v2 _ _ ha) rfl
  ·cases q
 ·rcases List.mem_append.1 hx with hx | hx
  ·exact List.mem_append_left _ (h.v1 x hx)
  ·rw[qZ8] at hx;subst hx;simp
 ·rcases List.mem_append.1 hx with hx | hx
  ·exact List.mem_append_left _ (h.v2 m x hx)
  ·rw[qZ8] at hx;cases hx;simp
 ·rcases List.mem_append.1 hx with hx | hx
  ·exact h.f2 m a x hx
  ·rw[qZ8] at hx;cases hx
theorem UI.addF {us:List Us} {vars:List Vr} {funcs:List Fv} (h:UI us vars funcs) {nm:qBs} {l:List Int} {s:Int} (hn:∀ x∈funcs,x.1≠nm):UI (us++[(nm,true,l,s)]) vars (funcs++[(nm,l,s)]):=by
 refine ⟨fun a ha=>?_,h.snoc_c fun a ha e1 e2=>?_,fun x hx=>List.mem_append_left _ (h.v1 x hx),fun m x hx=>?_,fun x hx=>?_,fun m a x hx=>?_⟩
 ·rcases List.mem_append.1 ha with ha | ha
  ·exact h.w a ha
  ·rw[qZ8] at ha;subst ha;exact .inr rfl
 ·exfalso
  obtain ⟨m,b,l',z⟩:=a
  simp only at e1 e2
  subst e1;subst e2
  exact hn _ (h.f2 _ _ _ ha) rfl
 ·rcases List.mem_append.1 hx with hx | hx
  ·exact h.v2 m x hx
  ·rw[qZ8] at hx;cases hx
 ·rcases List.mem_append.1 hx with hx | hx
  ·exact List.mem_append_left _ (h.f1 x hx)
  ·rw[qZ8] at hx;subst hx;simp
 ·rcases List.mem_append.1 hx with hx | hx
  ·exact List.mem_append_left _ (h.f2 m a x hx)
  ·rw[qZ8] at hx;cases hx;simp
theorem qDad {t:List Nod} {vars:List Vr} {funcs:List Fv} {i:Nat} {n:Nod} (hi:i < t.length) (hn:t.getD i qPE=n) (hl:vars.length<=20000):∀ (m q:Nat) (known:Bool),q+m=vars.length->
 ((∃ x∈vars.drop q,x.1=n.2.2.1/\x.2≠n.2.1)/\∃ y,qPA qRH (t,false,vars,funcs,(i:Int),known,(q:Int),())=some (.ret,(t,false,vars,funcs,(i:Int),y)))\/
 ((∀ x∈vars.drop q,x.1=n.2.2.1->x.2=n.2.1)/\qPA qRH (t,false,vars,funcs,(i:Int),known,(q:Int),())=some (.exit 3,(t,false,vars,funcs,(i:Int),known||(vars.drop q).any (fun x=>decide (x.1=n.2.2.1)),(vars.length:Int),()))):=by
 intro m
 induction m with
 |zero=>
  intro q known hq
  have e:vars.drop q=[]:=qY7 (by omega)
  rw[e]
  refine .inr ⟨fun x hx=>absurd hx qY16,qUA ?_ (by simp)⟩
  unfold qRH
  simp only
  rw[qJA (by omega)]
  have:q=vars.length:=by omega
  rw[this]
  simp
 |succ m ih=>
  intro q known hq
  have hql:q < vars.length:=by omega
  have hd:=qY6 hql
  have hg:vars.getD q zVr=vars[q]:=by simp[qZ4,hql]
  rw[hd]
  generalize vars[q]=x at hg hd
  have hstep:qRH (t,false,vars,funcs,(i:Int),known,(q:Int),())=if x.1=n.2.2.1 then (if x.2=n.2.1 then some (.normal,(t,false,vars,funcs,(i:Int),true,((q+1:Nat):Int),())) else some (.ret,(t,false,vars,funcs,(i:Int),true,(q:Int),()))) else some (.normal,(t,false,vars,funcs,(i:Int),known,((q+1:Nat):Int),())):=by
   unfold qRH
   simp only
   rw[qGA (by omega),qEA,qBA (by omega),qBA (by omega),qZ0,qZ0,qBA hql,qEA,qBA (by omega),qBA (by omega),hg,hn,w64 (by omega)]
   by_cases h1:x.1=n.2.2.1
   ·rw[show (x.1==n.2.2.1)=true by simpa using h1,if_pos h1,qOA,qEA,qBA (by omega),qBA (by omega),qBA hql,qEA,qBA (by omega),qBA (by omega)]
    by_cases h2:x.2=n.2.1
    ·rw[qID h2,if_pos h2];rfl
    ·rw[qDE h2,if_neg h2]
   ·rw[show (x.1==n.2.2.1)=false by simpa using h1,if_neg h1,qVA];rfl
  by_cases h1:x.1=n.2.2.1
  ·rw[if_pos h1] at hstep
   by_cases h2:x.2=n.2.1
   ·rw[if_pos h2] at hstep
    rcases ih (q+1) true (by omega) with ⟨⟨z,z1,z2⟩,y,hy⟩ | ⟨hz,hy⟩
    ·exact .inl ⟨⟨z,qY13 _ z1,z2⟩,y,by rw[qAB hstep,hy]⟩
    ·refine .inr ⟨fun z hz' e=>?_,?_⟩
     ·rcases List.mem_cons.1 hz' with rfl | hz'
      ·exact h2
      ·exact hz z hz' e
     ·rw[qAB hstep,hy,List.any_cons,qZ10 h1];simp
   ·rw[if_neg h2] at hstep
    exact .inl ⟨⟨x,by simp,h1,h2⟩,_,qUA hstep (by simp)⟩
  ·rw[if_neg h1] at hstep
   rcases ih (q+1) known (by omega) with ⟨⟨z,z1,z2⟩,y,hy⟩ | ⟨hz,hy⟩
   ·exact .inl ⟨⟨z,qY13 _ z1,z2⟩,y,by rw[qAB hstep,hy]⟩
   ·refine .inr ⟨fun z hz' e=>?_,?_⟩
    ·rcases List.mem_cons.1 hz' with rfl | hz'
     ·exact absurd e h1
     ·exact hz z hz' e
    ·rw[qAB hstep,hy,List.any_cons,qZ9 h1,Bool.false_or]
theorem qBab {t:List Nod} {vars:List Vr} {funcs:List Fv} {i:Nat} {g:Fv} (hl:funcs.length<=20000) (hfl:∀ x∈funcs,x.2.1.length<=20000):∀ (m q:Nat) (known:Bool),q+m=funcs.length->
 ((∃ x∈funcs.drop q,x.1=g.1/\x≠g)/\∃ y,qPA qAI (t,false,vars,funcs,(i:Int),g,known,(q:Int),())=some (.ret,(t,false,vars,funcs,(i:Int),y)))\/
 ((∀ x∈funcs.drop q,x.1=g.1->x=g)/\qPA qAI (t,false,vars,funcs,(i:Int),g,known,(q:Int),())=some (.exit 5,(t,false,vars,funcs,(i:Int),g,known||(funcs.drop q).any (fun x=>decide (x.1=g.1)),(funcs.length:Int),()))):=by
 intro m
 induction m with
 |zero=>
  intro q known hq
  have e:funcs.drop q=[]:=qY7 (by omega)
  rw[e]
  refine .inr ⟨fun x hx=>absurd hx qY16,qUA ?_ (by simp)⟩
  unfold qAI
  simp only
  rw[qJA (by omega)]
  have:q=funcs.length:=by omega
  rw[this]
  simp
 |succ m ih=>
  intro q known hq
  have hql:q < funcs.length:=by omega
  have hd:=qY6 hql
  have hg:funcs.getD q (([]:qBs),([]:List Int),(0:Int))=funcs[q]:=by simp[qZ4,hql]
  have hxl:=hfl _ (List.getElem_mem hql)
  rw[hd]
  generalize funcs[q]=x at hg hd hxl
  obtain ⟨xn,xa,xr⟩:=x
  obtain ⟨gn,ga,gr⟩:=g
  simp only at hxl
  have hstep:qAI (t,false,vars,funcs,(i:Int),(gn,ga,gr),known,(q:Int),())=if xn=gn then (if (xn,xa,xr)=(gn,ga,gr) then some (.normal,(t,false,vars,funcs,(i:Int),(gn,ga,gr),true,((q+1:Nat):Int),())) else some (.ret,(t,false,vars,funcs,(i:Int),(gn,ga,gr),true,(q:Int),()))) else some (.normal,(t,false,vars,funcs,(i:Int),(gn,ga,gr),known,((q+1:Nat):Int),())):=by
   unfold qAI
   simp only
   rw[qGA (by omega),qEA,qBA (by omega),qBA (by omega),qZ0,qBA hql,hg,w64 (by omega)]
   by_cases h1:xn=gn
   ·rw[show (xn==gn)=true by simpa using h1,if_pos h1,qOA,qEA,qBA (by omega),qBA (by omega),qBA hql]
    by_cases h2:xr=gr
    ·rw[qID h2,qEA,qBA (by omega),qBA (by omega),qBA hql,qBae (show xa.length<=2000000000 by omega),qAA]
     by_cases h3:xa=ga
     ·rw[qZ10 h3,if_pos (by rw[h1,h2,h3])];rfl
     ·rw[qZ9 h3,if_neg (fun e=>h3 (by cases e;rfl))];rfl
    ·rw[qDE h2,if_neg (fun e=>h2 (by cases e;rfl))]
   ·rw[show (xn==gn)=false by simpa using h1,if_neg h1,qVA];rfl
  by_cases h1:xn=gn
  ·rw[if_pos h1] at hstep
   by_cases h2:(xn,xa,xr)=(gn,ga,gr)
   ·rw[if_pos h2] at hstep
    rcases ih (q+1) true (by omega) with ⟨⟨z,z1,z2⟩,y,hy⟩ | ⟨hz,hy⟩
    ·exact .inl ⟨⟨z,qY13 _ z1,z2⟩,y,by rw[qAB hstep,hy]⟩
    ·refine .inr ⟨fun z hz' e=>?_,?_⟩
     ·rcases List.mem_cons.1 hz' with rfl | hz'
      ·exact h2
      ·exact hz z hz' e
     ·rw[qAB hstep,hy,List.any_cons,qZ10 h1];simp
   ·rw[if_neg h2] at hstep
    exact .inl ⟨⟨_,by simp,h1,h2⟩,_,qUA hstep (by simp)⟩
  ·rw[if_neg h1] at hstep
   rcases ih (q+1) known (by omega) with ⟨⟨z,z1,z2⟩,y,hy⟩ | ⟨hz,hy⟩
   ·exact .inl ⟨⟨z,qY13 _ z1,z2⟩,y,by rw[qAB hstep,hy]⟩
   ·refine .inr ⟨fun z hz' e=>?_,?_⟩
    ·rcases List.mem_cons.1 hz' with rfl | hz'
     ·exact absurd e h1
     ·exact hz z hz' e
    ·rw[qAB hstep,hy,List.any_cons,qZ9 h1,Bool.false_or]
theorem qIal {F:Tf} {t:List Nod} (hs:qLS t) (hF:F.flat=t) (hw:F.wf=true) (h0:(0:Int)∉F.srt) (hz:F.size<=20000) (hdep:F.dep<=257) {p:Nat} (hp:p < F.size) {vars:List Vr} {funcs:List Fv}
 (hI:UI (qTV F p) vars funcs) (hl:vars.length<=p) (hm:funcs.length<=p) :
 (¬ Cns (qTV F (p+1))/\∃ x,qNH (t,false,vars,funcs,(p:Int),())=some (.ret,(t,false,x)))\/
 ∃ vars' funcs',UI (qTV F (p+1)) vars' funcs'/\vars'.length<=p+1/\funcs'.length<=p+1/\qNH (t,false,vars,funcs,(p:Int),())=some (.normal,(t,false,vars',funcs',((p+1:Nat):Int),())):=by
 obtain ⟨n,k,x,rest,rest2,h1,h2,h3⟩:=qHan F 0 p hp
 obtain ⟨g1,g2⟩:=qIK (d:=qPE) h2
 have hmem:(n,k)∈F.subs:=qY14 h1
 obtain ⟨w1,w2,w3,w4⟩:=qOan hw h0 hmem
 have hks:=qXe hmem
 have htl:t.length=F.size:=by rw[<-hF,qMC]
 rw[hF] at g1 h2
 have hwp:qI ((p:Int)+1)=((p+1:Nat):Int):=by rw[w64 (by omega)];rfl
 have hT:=qSk h1
 have hkd:k.dep<=257:=by
  have:∀ (f:Tf),(n,k)∈f.subs->k.dep<=f.dep:=by
   intro f
   induction f with
   |nil=>intro h;simp[subs] at h
   |cons a b c ib ic=>
    intro h
    simp only[subs,qY12,qZ7,Prod.mk.injEq] at h
    simp only[dep]
    rcases h with ⟨rfl,rfl⟩ | h | h
    ·omega
    ·have:=ib h;omega
    ·have:=ic h;omega
  have:=this F hmem
  omega
 unfold qNH
 simp only
 rw[qGA (by omega),qEA,qBA (by omega),qBA (by omega),qZ0,g1]
 by_cases e4:n.1=4
 ·have hu:qKT (n,k)=some (n.2.2.1,false,[],n.2.1):=by unfold qKT;rw[if_pos e4]
  rw[hu] at hT
  rw[qFA e4]
  rcases qDad (funcs:=funcs) (t:=t) (i:=p) (n:=n) (by omega) g1 (show vars.length<=20000 by omega) vars.length 0 false (by omega) with ⟨⟨y,y1,y2,y3⟩,z,hz'⟩ | ⟨hy,hz'⟩
  ·rw[show ((0:Nat):Int)=0 from rfl] at hz'
   rw[hz']
   simp only[qAA,qQC,qNC,qOA,qVA]
   refine .inl ⟨fun hc=>y3 ?_,_,rfl⟩
   rw[hT] at hc
   have hy1:=hI.v1 y (by simpa using y1)
   have:=hc _ (List.mem_append_left _ hy1) (n.2.2.1,false,[],n.2.1) (by simp) y2
   simp only[Prod.mk.injEq] at this
   exact this.2.2.2
  ·rw[show ((0:Nat):Int)=0 from rfl] at hz'
   rw[hz']
   simp only[qAA,qHB,qOA,Bool.false_or,List.drop_zero]
   by_cases hk:(vars.any fun x=>decide (x.1=n.2.2.1))=true
   ·rw[hk]
    simp only[qY2,qVA,hwp]
    obtain ⟨y,y1,y2⟩:=List.any_eq_true.1 hk
    have y2':y.1=n.2.2.1:=of_decide_eq_true y2
    have hy1:=hI.v1 y y1
    have e2:=hy y (by simpa using y1) y2'
    rw[y2',e2] at hy1
    exact .inr ⟨_,_,by rw[hT];exact hI.again hy1,by omega,by omega,rfl⟩
   ·rw[Bool.not_eq_true] at hk
    rw[hk]
    simp only[qY1,qOA]
    rw[qEA,qBA (by omega),qBA (by omega),qEA,qBA (by omega),qBA (by omega),qBA (by simp[qKF];omega),qZ0,g1,hwp]
    have hx:∀ y∈vars,y.1≠n.2.2.1:=fun y hy1 e=>List.any_eq_false.1 hk y hy1 (qZ10 e)
    exact .inr ⟨_,_,by rw[hT];exact hI.addV hx,by simp;omega,by omega,rfl⟩
 ·rw[qDA e4]
  by_cases e5:n.1=5
  ·have hu:qKT (n,k)=some (n.2.2.1,true,k.srt,n.2.1):=by unfold qKT;rw[if_neg e4,if_pos e5]
   rw[hu] at hT
   rw[qFA e5]
   have hfa:qDf t (p:Int)=some (((n.2.2.1,k.srt,n.2.1),()),()):=by
    unfold qDf
    rw[qEA,qBA (by omega),qBA (by omega),qEaq hs (by omega) h2 w2 w3 hkd (by omega),qAA,qEA,qBA (by omega),qBA (by omega),qZ0,g1]
   rw[hfa,qAA]
   have hfl:∀ x∈funcs,x.2.1.length<=20000:=by
    intro y hy
    have hb2:=hI.f1 y hy
    obtain ⟨⟨n',k'⟩,m1,m2⟩:=List.mem_filterMap.1 (qAa _ hb2)
    unfold qKT at m2
    split at m2
    ·simp at m2
    ·split at m2
     ·simp only[Option.some.injEq,Prod.mk.injEq] at m2
      rw[<-m2.2.2.1,qKM]
      have:=qXe m1;have:=qWK k';omega
     ·cases m2
   rcases qBab (t:=t) (vars:=vars) (i:=p) (g:=(n.2.2.1,k.srt,n.2.1)) (show funcs.length<=20000 by omega) hfl funcs.length 0 false (by omega) with ⟨⟨y,y1,y2,y3⟩,z,hz'⟩ | ⟨hy,hz'⟩
   ·rw[show ((0:Nat):Int)=0 from rfl] at hz'
    simp only
    rw[hz']
    simp only[qAA,qQC,qNC,qOA,qVA]
    refine .inl ⟨fun hc=>y3 ?_,_,rfl⟩
    rw[hT] at hc
    have hy1:=hI.f1 y (by simpa using y1)
    have:=hc _ (List.mem_append_left _ hy1) (n.2.2.1,true,k.srt,n.2.1) (by simp) y2
    obtain ⟨ya,yb,yc⟩:=y
    simp only[Prod.mk.injEq,true_and] at this ⊢
    exact this
   ·rw[show ((0:Nat):Int)=0 from rfl] at hz'
    simp only
    rw[hz']
    simp only[qAA,qHB,qOA,Bool.false_or,List.drop_zero]
    by_cases hk:(funcs.any fun x=>decide (x.1=n.2.2.1))=true
    ·rw[hk]
     simp only[qY2,qVA,hwp]
     obtain ⟨y,y1,y2⟩:=List.any_eq_true.1 hk
     have y2':y.1=n.2.2.1:=of_decide_eq_true y2
     have hy1:=hI.f1 y y1
     have e2:=hy y (by simpa using y1) y2'
     rw[e2] at hy1
     exact .inr ⟨_,_,by rw[hT];exact hI.again hy1,by omega,by omega,rfl⟩
    ·rw[Bool.not_eq_true] at hk
     rw[hk]
     simp only[qY1,qOA]
     rw[qBA (by simp[qKF];omega),hwp]
     have hx:∀ y∈funcs,y.1≠n.2.2.1:=fun y hy1 e=>List.any_eq_false.1 hk y hy1 (qZ10 e)
     exact .inr ⟨_,_,by rw[hT];exact hI.addF hx,by omega,by simp;omega,rfl⟩
  ·have hu:qKT (n,k)=none:=by unfold qKT;rw[if_neg e4,if_neg e5]
   rw[hu] at hT
   rw[qDA e5,hwp]
   exact .inr ⟨_,_,by rw[hT];simpa using hI,by omega,by omega,rfl⟩
theorem qLaj {F:Tf} {t:List Nod} (hs:qLS t) (hF:F.flat=t) (hw:F.wf=true) (h0:(0:Int)∉F.srt) (hz:F.size<=20000) (hdep:F.dep<=257):∀ (m p:Nat) (vars:List Vr) (funcs:List Fv),p+m=F.size->
 UI (qTV F p) vars funcs->vars.length<=p->funcs.length<=p->
 (¬ Cns (qLs F)/\∃ x,qPA qNH (t,false,vars,funcs,(p:Int),())=some (.ret,(t,false,x)))\/
 ∃ vars' funcs' y,UI (qLs F) vars' funcs'/\vars'.length<=20000/\funcs'.length<=20000/\qPA qNH (t,false,vars,funcs,(p:Int),())=some (.exit 0,(t,false,vars',funcs',y)):=by
 have htl:t.length=F.size:=by rw[<-hF,qMC]
 intro m
 induction m with
 |zero=>
  intro p vars funcs hp hI hl hm
  have e:qTV F p=qLs F:=by unfold qTV qLs;rw[List.take_of_length_le (by rw[qVY];omega)]
  rw[e] at hI
  exact .inr ⟨vars,funcs,_,hI,by omega,by omega,qUA (by unfold qNH;simp only;rw[qJA (by omega)]) (by simp)⟩
 |succ m ih=>
  intro p vars funcs hp hI hl hm
  rcases qIal hs hF hw h0 hz hdep (p:=p) (by omega) hI hl hm with ⟨h1,x,h2⟩ | ⟨vars',funcs',h1,h2,h3,h4⟩
  ·exact .inl ⟨fun hc=>h1 (hc.mono qAa),x,qUA h2 (by simp)⟩
  ·rw[qAB h4]
   exact ih (p+1) vars' funcs' (by omega) h1 h2 h3
theorem qDam {vars:List Vr} {funcs:List Fv} (hl:funcs.length<=20000) {i:Nat} (hi:i < vars.length):∀ (m q:Nat),q+m=funcs.length->
 ((∃ g∈funcs.drop q,(vars.getD i zVr).1=g.1)/\∃ y,qPA qPH (false,vars,funcs,(i:Int),(q:Int),())=some (.ret,(false,vars,funcs,(i:Int),y)))\/
 ((∀ g∈funcs.drop q,(vars.getD i zVr).1≠g.1)/\∃ y,qPA qPH (false,vars,funcs,(i:Int),(q:Int),())=some (.exit 9,(false,vars,funcs,(i:Int),y))):=by
 intro m
 induction m with
 |zero=>
  intro q hq
  have e:funcs.drop q=[]:=qY7 (by omega)
  rw[e]
  exact .inr ⟨fun x hx=>absurd hx qY16,_,qUA (by unfold qPH;simp only;rw[qJA (by omega)]) (by simp)⟩
 |succ m ih=>
  intro q hq
  have hql:q < funcs.length:=by omega
  have hd:=qY6 hql
  have hg:funcs.getD q (([]:qBs),([]:List Int),(0:Int))=funcs[q]:=by simp[qZ4,hql]
  rw[hd]
  generalize funcs[q]=x at hg hd
  have hstep:qPH (false,vars,funcs,(i:Int),(q:Int),())=if (vars.getD i zVr).1=x.1 then some (.ret,(false,vars,funcs,(i:Int),(q:Int),())) else some (.normal,(false,vars,funcs,(i:Int),((q+1:Nat):Int),())):=by
   unfold qPH
   simp only
   rw[qGA (by omega),qEA,qBA (by omega),qBA (by omega),qZ0,qZ0,qBA hi,qEA,qBA (by omega),qBA (by omega),qBA hql,hg,w64 (by omega)]
   by_cases h1:(vars.getD i zVr).1=x.1
   ·rw[show ((vars.getD i zVr).1==x.1)=true from beq_iff_eq.2 h1,if_pos h1,qOA]
   ·rw[show ((vars.getD i zVr).1==x.1)=false from beq_eq_false_iff_ne.2 h1,if_neg h1,qVA];rfl
  by_cases h1:(vars.getD i zVr).1=x.1
  ·rw[if_pos h1] at hstep
   exact .inl ⟨⟨x,by simp,h1⟩,_,qUA hstep (by simp)⟩
  ·rw[if_neg h1] at hstep
   rcases ih (q+1) (by omega) with ⟨⟨z,z1,z2⟩,y,hy⟩ | ⟨hz,y,hy⟩
   ·exact .inl ⟨⟨z,qY13 _ z1,z2⟩,y,by rw[qAB hstep,hy]⟩
   ·refine .inr ⟨fun z hz'=>?_,y,by rw[qAB hstep,hy]⟩
    rcases List.mem_cons.1 hz' with rfl | hz'
    ·exact h1
    ·exact hz z hz'
theorem qCae {vars:List Vr} {funcs:List Fv} (hv:vars.length<=20000) (hl:funcs.length<=20000):∀ (m i:Nat),i+m=vars.length->
 ((∃ v∈vars.drop i,∃ g∈funcs,v.1=g.1)/\∃ y,qPA qNG (false,vars,funcs,(i:Int),())=some (.ret,(false,y)))\/
 ((∀ v∈vars.drop i,∀ g∈funcs,v.1≠g.1)/\∃ y,qPA qNG (false,vars,funcs,(i:Int),())=some (.exit 7,y)):=by
 intro m
 induction m with
 |zero=>
  intro i hi
  have e:vars.drop i=[]:=qY7 (by omega)
  rw[e]
  exact .inr ⟨fun x hx=>absurd hx qY16,_,qUA (by unfold qNG;simp only;rw[qJA (by omega)]) (by simp)⟩
 |succ m ih=>
  intro i hi
  have hil:i < vars.length:=by omega
  have hd:=qY6 hil
  have hg:vars.getD i zVr=vars[i]:=by simp[qZ4,hil]
  have hin:=qDam (vars:=vars) hl hil funcs.length 0 (by omega)
  rw[hg] at hin
  rw[hd]
  generalize vars[i]=x at hg hd hin
  rw[List.drop_zero,show ((0:Nat):Int)=0 from rfl] at hin
  rcases hin with ⟨⟨g,g1,g2⟩,y,hy⟩ | ⟨hn,y,hy⟩
  ·refine .inl ⟨⟨x,by simp,g,g1,g2⟩,_,qUA (y:=(false,vars,funcs,(i:Int),())) ?_ (by simp)⟩
   unfold qNG
   simp only
   rw[qGA (by omega),hy]
   simp only[qAA,qQC,qNC,qOA,qVA]
  ·have hgo:qNG (false,vars,funcs,(i:Int),())=some (.normal,(false,vars,funcs,((i+1:Nat):Int),())):=by
    unfold qNG
    simp only
    rw[qGA (by omega),hy]
    simp only[qAA,qHB,qOA]
    rw[w64 (by omega)]
    rfl
   rcases ih (i+1) (by omega) with ⟨⟨v,v1,v2⟩,y,hy⟩ | ⟨hz,y,hy⟩
   ·exact .inl ⟨⟨v,qY13 _ v1,v2⟩,y,by rw[qAB hgo,hy]⟩
   ·refine .inr ⟨fun z hz'=>?_,y,by rw[qAB hgo,hy]⟩
    rcases List.mem_cons.1 hz' with rfl | hz'
    ·exact hn
    ·exact hz z hz'
theorem qGq {F:Tf} {t:List Nod} (hs:qLS t) (hF:F.flat=t) (hw:F.wf=true) (h0:(0:Int)∉F.srt) (hz:F.size<=20000) (hdep:F.dep<=257):∃ b,qSa t=some ((b,()),())/\(b=true ↔ Cns (qLs F)):=by
 unfold qSa
 rcases qLaj hs hF hw h0 hz hdep F.size 0 [] [] (by omega) UI.nil (by simp) (by simp) with ⟨h1,x,h2⟩ | ⟨vars,funcs,y,h1,h2,h3,h4⟩
 ·rw[show ((0:Nat):Int)=0 from rfl] at h2
  rw[h2]
  simp only[qAA,qQC,qNC,qOA,qVA]
  exact ⟨false,rfl,fun h=>(by cases h),fun h=>absurd h h1⟩
 ·rw[show ((0:Nat):Int)=0 from rfl] at h4
  rw[h4]
  simp only[qAA,qHB,qOA]
  rcases qCae h2 h3 vars.length 0 (by omega) with ⟨⟨v,v1,g,g1,e⟩,y,hy⟩ | ⟨hn,y,hy⟩
  ·rw[show ((0:Nat):Int)=0 from rfl] at hy
   rw[hy]
   simp only[qAA,qQC,qNC,qOA,qVA]
   refine ⟨false,rfl,fun h=>(by cases h),fun hc=>?_⟩
   have:=hc _ (h1.v1 v (by simpa using v1)) _ (h1.f1 g g1) e
   simp at this
  ·rw[show ((0:Nat):Int)=0 from rfl] at hy
   rw[hy]
   simp only[qAA,qHB,qOA]
   refine ⟨true,rfl,fun _=>?_,fun _=>rfl⟩
   intro a ha b hb e
   obtain ⟨an,ab,al,azs'⟩:=a
   obtain ⟨bn,bb,bl,bs⟩:=b
   simp only at e
   subst e
   rcases h1.w _ ha with ⟨p1,p2⟩ | p1<;>rcases h1.w _ hb with ⟨q1,q2⟩ | q1<;>simp only at p1 q1
   ·exact h1.c _ ha _ hb rfl (by simp only;rw[p1,q1])
   ·simp only at p2
    subst p1;subst p2;subst q1
    exact absurd rfl (hn _ (by simpa using h1.v2 _ _ ha) _ (h1.f2 _ _ _ hb))
   ·simp only at q2
    subst p1;subst q2;subst q1
    exact absurd rfl (hn _ (by simpa using h1.v2 _ _ hb) _ (h1.f2 _ _ _ ha))
   ·exact h1.c _ ha _ hb rfl (by simp only;rw[p1,q1])
theorem qTr {t:List Nod} (hs:qLS t):(∃ F,VT t F/\qWa t=some ((F.srt.getD 0 0,()),())/\1<=F.srt.getD 0 0)\/((¬ ∃ F,VT t F)/\qWa t=some ((0,()),())):=by
 unfold qWa
 by_cases hl:t.length > 20000
 ·rw[qGA (by omega)]
  refine .inr ⟨fun ⟨F,hF⟩=>?_,rfl⟩
  have:=hF.size
  have h2:=qMC F
  rw[hF.flat] at h2
  omega
 rw[qJA (by omega)]
 obtain ⟨f,hf1,hf2⟩:=qEx
 have htr:=qZaf hs (by omega) f 0 (by omega) (by omega) 0
 rw[show ((0:Nat):Int)=0 from rfl,List.drop_zero] at htr
 rw[hf1,htr,qAA]
 have hiff:∀ F,VT t F->one 257 t=some (F,[]):=by
  intro F hF
  have:=qRw (f:=F) (d:=257) [] hF.wf hF.len hF.dep
  rw[qY4,hF.flat] at this
  exact this
 unfold qWX
 rw[show 257 - 0=257 from rfl]
 cases ho:one 257 t with
 |none=>
  simp only
  rw[qDE (show (-1:Int)≠(t.length:Int) by omega)]
  exact .inr ⟨fun ⟨F,hF⟩=>(by rw[hiff F hF] at ho;cases ho),rfl⟩
 |some x=>
  obtain ⟨F,l'⟩:=x
  obtain ⟨o1,o2,o3,o4⟩:=qEZ 257 ho
  simp only
  by_cases hl':l'=[]
  ·subst hl'
   rw[qY4] at o1
   rw[qID (show (t.length:Int) - (([]:List Nod).length:Int)=(t.length:Int) by simp)]
   obtain ⟨x,hx⟩:∃ x,F.srt=[x]:=by
    have:=qKM F
    rw[o3] at this
    match h:F.srt,this with
    |[x],_=>exact ⟨x,rfl⟩
   have hg:F.srt.getD 0 0=x:=by rw[hx];rfl
   have hz:F.size<=20000:=by rw[<-qMC,<-o1];omega
   by_cases h0:F.srt.getD 0 0=0
   ·rw[qFA h0]
    refine .inr ⟨fun ⟨G,hG⟩=>?_,rfl⟩
    have:=hiff G hG
    rw[ho] at this
    cases this
    exact hG.srt (by rw[hx,<-hg,h0];simp)
   rw[qDA h0]
   have hn:(0:Int)∉F.srt:=by rw[hx];simp;rw[hg] at h0;exact fun e=>h0 e.symm
   obtain ⟨b,b1,b2⟩:=qGq hs o1.symm o2 hn hz o4
   rw[b1,qAA]
   cases b with
   |true=>
    refine .inl ⟨F,⟨o1.symm,o2,hn,o3,hz,o4,b2.1 rfl⟩,rfl,?_⟩
    have:=qOp F o2 x (by rw[hx];simp)
    omega
   |false=>
    refine .inr ⟨fun ⟨G,hG⟩=>?_,rfl⟩
    have:=hiff G hG
    rw[ho] at this
    cases this
    have:=b2.2 hG.cns
    cases this
  ·have hpos:0 < l'.length:=List.length_pos_iff.2 hl'
   rw[qDE (by omega)]
   refine .inr ⟨fun ⟨G,hG⟩=>?_,rfl⟩
   have:=hiff G hG
   rw[ho] at this
   cases this
   exact hl' rfl
theorem qCX {t:List Nod} (hs:qLS t):∃ b,qPQ t=some ((b,()),())/\(b=true ↔ ∃ F,VT t F):=by
 unfold qPQ
 rcases qTr hs with ⟨F,h1,h2,h3⟩ | ⟨h1,h2⟩
 ·rw[h2,qAA]
  exact ⟨_,rfl,fun _=>⟨F,h1⟩,fun _=>qZ10 (show F.srt.getD 0 0 > 0 by omega)⟩
 ·rw[h2,qAA]
  exact ⟨_,rfl,fun h=>(by cases h),fun h=>absurd h h1⟩
theorem qCat {p q:Rat} (hp:D p<=400000) (hq:D q<=400000):qWz (txt p) (txt q)=some ((txt (p+q),()),()):=by
 have:=qIE p;have:=qIE q;rw[qSq (by omega) (by omega),qAL]
theorem qEat {p q:Rat} (hp:D p<=400000) (hq:D q<=400000):qIr (txt p) (txt q)=some ((txt (p * q),()),()):=by
 have:=qIE p;have:=qIE q;rw[qNh (by omega) (by omega),qAL]
theorem qVam {p q:Rat} (hp:D p<=100000) (hq:D q<=100000):qWb (txt p) (txt q)=some (((p - q).num.sign,()),()):=by
 have:=qIE p;have:=qIE q;rw[qJg (by omega) (by omega),qXq,qHK,qHK]
theorem qAau {x y:Int} (hz:y≠0) (hp:(txt (x:Rat)).length<=30000) (hq:(txt (y:Rat)).length<=30000):qSs (txt (x:Rat)) (txt (y:Rat))=some ((txt ((x / y:Int):Rat),()),()):=by
 rw[qFx (by omega) (by omega),sQuo,qKN,if_neg hz]
theorem qNat {x y:Int} (hz:y≠0) (hp:(txt (x:Rat)).length<=30000) (hq:(txt (y:Rat)).length<=30000):qWag (txt (x:Rat)) (txt (y:Rat))=some ((txt ((x % y:Int):Rat),()),()):=by
 rw[qLam hp hq,sRem,qKN,if_neg hz]
theorem qDk (b:Bool):qRO b=some ((encS (.b b),()),()):=rfl
theorem qQk {op:Int} {a:List Val} (hl:a.length<=1000000000) (hop:op=7\/op=8) :
 (a.all (fun v=>!(v.2.1==(op==8)))=true/\qPA qFN (op,a,qND,0,())=some (.exit 1,(op,a,qND,(a.length:Int),())))\/(a.all (fun v=>!(v.2.1==(op==8)))=false/\∃ k:Nat,qPA qFN (op,a,qND,0,())=some (.ret,(op,a,encS (.b (op==8)),(k:Int),()))):=by
 have key:=qOG (step:=qFN) (fun k=>(op,a,qND,(k:Int),())) (fun k=>(op,a,encS (.b (op==8)),(k:Int),())) a.length (E:=.exit 1) (B:=.ret) (by simp) (by simp) (fun k=>!((a.getD k qND).2.1==(op==8))) (fun k hk=>by
  unfold qFN
  simp only
  rw[qGA (by omega),qEA,qBA (by omega),qBA (by omega),qZ0,qDk,qAA,w64 (by omega)]
  cases ((a.getD k qND).2.1==(op==8))<;>rfl) (by
  unfold qFN
  simp only
  rw[qJA (by omega)])
 rw[qHM a qND (fun v=>!(v.2.1==(op==8)))] at key
 exact key
theorem qMz {n:Nod} {vs:List SV} (ho:nOp n=6\/nOp n=7\/nOp n=8\/nOp n=9) (hc:qXA (nOp n) vs.length=true) (hl:vs.length<=100000):qBh (nOp n) (vs.map encS)=some ((encS (opV n vs),()),()):=by
 have hlm:(vs.map encS).length<=1000000000:=by rw[List.length_map];omega
 unfold qBh opV
 by_cases e6:nOp n=6
 ·rw[e6] at hc
  rw[qFA e6,if_neg (by omega),if_neg (by omega),if_pos e6]
  rcases vs with _ | ⟨a,_ | ⟨b,l⟩⟩<;>simp[qXA] at hc
  ·simp only[List.map_cons,List.map_nil,qZ3]
   rw[qEA,qBA (by omega),qBA (by simp),i0,qZ3,qCM]
   rfl
  ·omega
 rw[qDA e6]
 by_cases e9:nOp n=9
 ·rw[e9] at hc
  rw[qFA e9,if_neg (by omega),if_neg (by omega),if_neg e6,if_pos e9]
  rcases vs with _ | ⟨a,_ | ⟨b,_ | ⟨c,l⟩⟩⟩<;>simp[qXA] at hc
  ·simp only[List.map_cons,List.map_nil,qZ3,qZ2]
   rw[qEA,qBA (by omega),qBA (by simp),qEA,qBA (by omega),qBA (by simp),i0,i1,qZ2,qZ3,qZ3,qCM,qCM]
   cases isT a<;>rfl
  ·omega
 rw[qDA e9]
 have hop:nOp n=7\/nOp n=8:=by omega
 have hz:((0:Int),false,([]:qBs),([]:List qBs),([]:List qBs))=qND:=rfl
 rw[hz]
 rcases hop with h7 | h8
 ·rw[if_pos (.inr h7)]
  have key:=qQk hlm (op:=nOp n) (.inl h7)
  have e8:(nOp n==8)=false:=by rw[h7];rfl
  have e7:(nOp n==7)=true:=by rw[h7];rfl
  rw[e8] at key
  have ha:(vs.map encS).all (fun v=>!(v.2.1==false))=vs.all isT:=by
   rw[List.all_map]
   congr 1
   funext v
   simp only[Function.comp,qCM]
   cases isT v<;>rfl
  rw[ha] at key
  rcases key with ⟨k1,k2⟩ | ⟨k1,k,k2⟩
  ·rw[k2,k1]
   simp only[qAA,qHB,qOA]
   rw[e7];rfl
  ·rw[k2,k1]
   simp only[qAA,qQC,qNC,qOA,qVA]
 ·rw[if_neg (by omega),if_pos (.inr h8)]
  have key:=qQk hlm (op:=nOp n) (.inr h8)
  have e8:(nOp n==8)=true:=by rw[h8];rfl
  have e7:(nOp n==7)=false:=by rw[h8];rfl
  rw[e8] at key
  have ha:(vs.map encS).all (fun v=>!(v.2.1==true))=!vs.any isT:=by
   rw[List.all_map,<-qZah]
   congr 1
   funext v
   simp only[Function.comp,qCM]
   cases isT v<;>rfl
  rw[ha] at key
  rcases key with ⟨k1,k2⟩ | ⟨k1,k,k2⟩
  ·have k1':vs.any isT=false:=by simpa using k1
   rw[k2,k1']
   simp only[qAA,qHB,qOA]
   rw[e7];rfl
  ·have k1':vs.any isT=true:=by simpa using k1
   rw[k2,k1']
   simp only[qAA,qQC,qNC,qOA,qVA]
abbrev Xe:=(List Nod)×(List qEK)×List Interp
theorem qBai (x0:Xe) (t6:Val) (L:List SV) (hL:L.length<=100000):∀ (vs pre:List SV) (a B:Nat) (r:Rat),L=pre++vs->(∀ v∈vs,qGF v=2\/qGF v=3)->Ht a r->Hs vs B->a+B<=190000->
 qPA qMF (x0,L.map encS,t6,txt r,(pre.length:Int),())=some (.exit 3,(x0,L.map encS,t6,txt (vs.foldl (fun s v=>s+qLO v) r),(L.length:Int),())):=by
 intro vs
 induction vs with
 |nil=>
  intro pre a B r hL' _ _ _ _
  have:pre.length=L.length:=by rw[hL'];simp
  refine qUA ?_ (by simp)
  unfold qMF
  simp only
  rw[qJA (by rw[List.length_map];omega),this]
  rfl
 |cons w vs ih=>
  intro pre a B r hL' hs hr hB hab
  obtain ⟨b,c,h1,h2,h3,h4⟩:=hB
  have hlen:L.length=pre.length+(vs.length+1):=by rw[hL'];simp
  have hg:(L.map encS).getD pre.length qND=encS w:=by
   rw[qKaf (by omega),hL'];simp[qZ4]
  have hw:=qNM h2 h1
  rw[qAB (y:=(x0,L.map encS,t6,txt (r+qLO w),((pre++[w]).length:Int),())) (by
   unfold qMF
   simp only
   rw[qGA (by rw[List.length_map];omega),qEA,qBA (by omega),qBA (by rw[List.length_map];omega),qZ0,hg,qUL (hs w (by simp)),qCat (by have:=hr.D;omega) (by have:=hw.D;omega),qAA,w64 (by omega)]
   simp)]
  rw[ih (pre++[w]) (a+b+1) c (r+qLO w) (by rw[hL'];simp) (fun v hv=>hs v (by simp[hv])) (qTad hr hw) h3 (by omega)]
  rfl
theorem qRaj {B:Nat} {a b:SV} (h:Bdd B a) (hB:B<=90000):qWI (encS a) (encS b)=some ((decide (encS a=encS b),()),()):=by
 cases a with
 |a d P=>
  have:=h.2.2
  exact qHS (by simp only[encS,qJE];omega) (by simp only[encS,qNI];omega)
 |b x=>exact qHS (by simp[encS]) (by simp[encS])
 |z x=>exact qHS (by simp[encS]) (by simp[encS])
 |q x=>exact qHS (by simp[encS]) (by simp[encS])
theorem qQah {x0:Xe} {n:Nod} {vs:List SV} {B:Nat} {f:Int} (hn:qRC n=true) (h4:nOp n≠4) (h5:nOp n≠5) (hc:qXA (nOp n) vs.length=true) (hs:qDD n f (vs.map qGF)≠0)
 (hok:∀ v∈vs,okS v) (hB:Hs vs B) (hB9:B<=29000) (hnn:Ht 75 (qFe n)) (hl:vs.length<=100000):qKE x0 n (vs.map encS)=some ((encS (opV n vs),0,()),(x0,())):=by
 have hop:=qOq hn
 have hlog:nOp n=6\/nOp n=7\/nOp n=8\/nOp n=9->qBh (nOp n) (vs.map encS)=some ((encS (opV n vs),()),()):=fun h=>qMz h hc hl
 unfold qKE
 have hO:n.1=nOp n:=rfl
 have hN:n.2.2.2.1=qQT n:=rfl
 have hS:n.2.1=qGG n:=rfl
 rw[hO,hN,hS]
 by_cases e1:nOp n=1
 ·have hv:opV n vs=.b (vs.all isT):=by unfold opV;rw[if_pos (.inl e1)]
  rw[e1] at hc
  have:vs=[]:=by
   have:vs.length=0:=by simp[qXA] at hc;simpa using hc
   exact List.length_eq_zero_iff.1 this
  rw[qFA e1,hv,this,e1]
  rfl
 rw[qDA e1]
 by_cases e2:nOp n=2
 ·have hv:opV n vs=.b (vs.any isT):=by unfold opV;rw[if_neg (by omega),if_pos (.inl e2)]
  rw[e2] at hc
  have:vs=[]:=by
   have:vs.length=0:=by simp[qXA] at hc;simpa using hc
   exact List.length_eq_zero_iff.1 this
  rw[qFA e2,hv,this,e2]
  rfl
 rw[qDA e2]
 by_cases e3:nOp n=3
 ·rw[qFA e3]
  obtain ⟨a1,a2,a3⟩:=qKt hn e3
  have:opV n vs=qMq (qGG n) (qFe n):=by unfold opV;simp[e3]
  rw[this,qBW a1 a3,a2]
 rw[qDA e3,qDA h4,qDA h5]
 by_cases e10:nOp n=10
 ·have hv:opV n vs=(if isT (vs.getD 0 (.b false))=true then vs.getD 1 (.b false) else vs.getD 2 (.b false)):=by
   unfold opV
   rw[if_neg (by omega),if_neg (by omega),if_neg (by omega),if_neg (by omega),if_pos e10]
  rw[e10] at hc
  rw[qFA e10,hv]
  rcases vs with _ | ⟨a,_ | ⟨b,_ | ⟨c,_ | ⟨d,l⟩⟩⟩⟩<;>simp[qXA] at hc
  ·simp only[List.map_cons,List.map_nil,qZ3,qZ2]
   rw[qEA,qBA (by omega),qBA (by simp),qEA,qBA (by omega),qBA (by simp),qEA,qBA (by omega),qBA (by simp),i0,i1,i2,qZ2,qZ2,qZ2,qZ3,qZ3,qZ3,qCM]
   cases isT a<;>rfl
  ·omega
 rw[qDA e10]
 by_cases e11:nOp n=11
 ·have hv:opV n vs=.b (@decide (vs.getD 0 (.b false)=vs.getD 1 (.b false)) (Classical.propDecidable _)):=by
   unfold opV
   rw[if_neg (by omega),if_neg (by omega),if_neg (by omega),if_neg (by omega),if_neg e10,if_pos e11]
  rw[e11] at hc
  rw[qFA e11,hv]
  rcases vs with _ | ⟨a,_ | ⟨b,_ | ⟨c,l⟩⟩⟩<;>simp[qXA] at hc
  ·simp only[List.map_cons,List.map_nil,qZ3,qZ2]
   rw[qEA,qBA (by omega),qBA (by simp),qEA,qBA (by omega),qBA (by simp),i0,i1,qZ2,qZ3,qZ3,qRaj (hB.mem a (by simp)) (by omega),qAA,qDk,qAA]
   simp only[qZ3,qZ2]
   exact congrArg (fun x=>some ((encS (SV.b x),(0:Int),()),(x0,()))) (qDag a b)
  ·omega
 rw[qDA e11]
 have hnum:nOp n=12\/nOp n=13->∃ a b,vs=[a,b]/\(qGF a=2\/qGF a=3)/\(qGF b=2\/qGF b=3):=by
  intro ho
  have hc2:vs.length=2:=by
   rcases ho with ho | ho<;>rw[ho] at hc<;>simp[qXA] at hc<;>omega
  unfold qDD at hs
  rw[if_neg (by omega),if_neg (by omega),if_neg (by omega),if_neg (by omega),if_pos ho] at hs
  rcases vs with _ | ⟨a,_ | ⟨b,_ | ⟨c,l⟩⟩⟩<;>simp at hc2
  ·simp only[List.map_cons,List.map_nil,qZ3] at hs
   split at hs
   ·rename_i hh
    have hb:qGF b=qGF a:=hh.2 _ (by simp)
    exact ⟨a,b,rfl,hh.1,by rw[hb];exact hh.1⟩
   ·exact absurd rfl hs
 by_cases e12:nOp n=12
 ·obtain ⟨a,b,rfl,ha,hb⟩:=hnum (.inl e12)
  have qa:=(qNM ((hB.mem a (by simp)).mono (Nat.le_add_right B 1)) (by omega)).D
  have qb:=(qNM ((hB.mem b (by simp)).mono (Nat.le_add_right B 1)) (by omega)).D
  have hv:opV n [a,b]=.b (decide (qLO a<=qLO b)):=by
   unfold opV
   rw[if_neg (by omega),if_neg (by omega),if_neg (by omega),if_neg (by omega),if_neg e10,if_neg e11,if_pos e12]
   simp only[qZ3,qZ2]
  rw[qFA e12,hv]
  simp only[List.map_cons,List.map_nil]
  rw[qEA,qBA (by omega),qBA (by simp),qEA,qBA (by omega),qBA (by simp),i0,i1,qZ2,qZ3,qZ3,qUL ha,qUL hb,qVam (by omega) (by omega),qAA]
  simp only
  have e:decide ((qLO a - qLO b).num.sign<=0)=decide (qLO a<=qLO b):=by rw[decide_eq_decide];exact qDan _ _
  rw[e];rfl
 rw[qDA e12]
 by_cases e13:nOp n=13
 ·obtain ⟨a,b,rfl,ha,hb⟩:=hnum (.inr e13)
  have qa:=(qNM ((hB.mem a (by simp)).mono (Nat.le_add_right B 1)) (by omega)).D
  have qb:=(qNM ((hB.mem b (by simp)).mono (Nat.le_add_right B 1)) (by omega)).D
  have hv:opV n [a,b]=.b (decide (qLO a < qLO b)):=by
   unfold opV
   rw[if_neg (by omega),if_neg (by omega),if_neg (by omega),if_neg (by omega),if_neg e10,if_neg e11,if_neg e12,if_pos e13]
   simp only[qZ3,qZ2]
  rw[qFA e13,hv]
  simp only[List.map_cons,List.map_nil]
  rw[qEA,qBA (by omega),qBA (by simp),qEA,qBA (by omega),qBA (by simp),i0,i1,qZ2,qZ3,qZ3,qUL ha,qUL hb,qVam (by omega) (by omega),qAA]
  simp only
  have e:decide ((qLO a - qLO b).num.sign < 0)=decide (qLO a < qLO b):=by rw[decide_eq_decide];exact qQam _ _
  rw[e];rfl
 rw[qDA e13]
 by_cases hlo:nOp n=6\/nOp n=7\/nOp n=8\/nOp n=9
 ·rw[qDA (by omega),qDA (by omega),qDA (by omega),qDA (by omega),qDA (by omega),qDA (by omega),qDA (by omega),hlog hlo,qAA]
 clear hlog hnum
 have hv:opV n vs=if nOp n=14 then qMq (qGF (vs.getD 0 (.b false))) (sumQ vs)
  else if nOp n=15 then qMq (qGF (vs.getD 0 (.b false))) (qLO (vs.getD 0 (.b false)) * qLO (vs.getD 1 (.b false)))
  else if nOp n=16 then .z (intV (vs.getD 0 (.b false)) / (qFe n).num)
  else if nOp n=17 then .z (intV (vs.getD 0 (.b false)) % (qFe n).num)
  else if nOp n=18 then .z (atS (vs.getD 0 (.b false)) (intV (vs.getD 1 (.b false))))
  else if nOp n=19 then stS (vs.getD 0 (.b false)) (intV (vs.getD 1 (.b false))) (intV (vs.getD 2 (.b false)))
  else .a (intV (vs.getD 0 (.b false))) []:=by
  unfold opV
  rw[if_neg (by omega),if_neg (by omega),if_neg (by omega),if_neg (by omega),if_neg (by omega),if_neg (by omega),if_neg (by omega),if_neg (by omega),if_neg e3]
 rw[hv]
 have hst:qDD n f (vs.map qGF)=if nOp n=14 then (if ((vs.map qGF).getD 0 0=2\/(vs.map qGF).getD 0 0=3)/\∀ s∈vs.map qGF,s=(vs.map qGF).getD 0 0 then (vs.map qGF).getD 0 0 else 0)
  else if nOp n=15 then (if f=3/\((vs.map qGF).getD 0 0=2\/(vs.map qGF).getD 0 0=3)/\∀ s∈vs.map qGF,s=(vs.map qGF).getD 0 0 then (vs.map qGF).getD 0 0 else 0)
  else if nOp n=16\/nOp n=17 then (if (vs.map qGF).getD 0 0=2 then 2 else 0)
  else if nOp n=18 then (if (vs.map qGF).getD 0 0=4/\(vs.map qGF).getD 1 0=2 then 2 else 0)
  else if nOp n=19 then (if (vs.map qGF).getD 0 0=4/\(vs.map qGF).getD 1 0=2/\(vs.map qGF).getD 2 0=2 then 4 else 0)
  else if nOp n=20 then (if (vs.map qGF).getD 0 0=2 then 4 else 0) else 0:=by
  unfold qDD
  rw[if_neg (by omega),if_neg (by omega),if_neg (by omega),if_neg (by omega),if_neg (by omega)]
 rw[hst] at hs
 clear hv hst
 by_cases e14:nOp n=14
 ·rw[e14] at hc
  rw[if_pos e14] at hs
  rw[qFA e14,if_pos e14]
  rcases vs with _ | ⟨a,l⟩
  ·simp[qXA] at hc
  ·simp only[List.map_cons,qZ3] at hs ⊢
   split at hs
   ·rename_i hh
    obtain ⟨g1,g2⟩:=hh
    have hall:∀ v∈a::l,qGF v=qGF a:=fun v hv=>g2 (qGF v) (by
     rcases List.mem_cons.1 hv with rfl | hv
     ·simp
     ·exact qY13 _ (List.mem_map_of_mem hv))
    have h0:Ht 1 ((0:Int):Rat):=qWT (by simp[qFD])
    have key:=qBai x0 ((0:Int),false,([]:qBs),([]:List qBs),([]:List qBs)) (a::l) hl (a::l) [] 1 B ((0:Int):Rat) rfl (fun v hv=>by rw[hall v hv];exact g1) h0 hB (by omega)
    rw[<-t0] at key
    simp only[List.length_nil,List.map_cons] at key
    rw[show ((0:Nat):Int)=0 from rfl] at key
    rw[key]
    simp only[qAA,qHB,qOA]
    rw[qEA,qBA (by omega),qBA (by simp),i0,qZ3,qFR]
    have e:sumQ (a::l)=(a::l).foldl (fun s v=>s+qLO v) ((0:Int):Rat):=rfl
    rw[e,qBW g1 fun h2=>qRag _ _ (Rat.den_intCast 0) fun v hv=>by rw[hall v hv];exact h2]
   ·exact absurd rfl hs
 rw[if_neg e14] at hs
 rw[qDA e14,if_neg e14]
 by_cases e15:nOp n=15
 ·rw[e15] at hc
  rw[if_pos e15] at hs
  rw[qFA e15,if_pos e15]
  rcases vs with _ | ⟨a,_ | ⟨b,_ | ⟨c,l⟩⟩⟩<;>simp[qXA] at hc
  ·simp only[List.map_cons,List.map_nil,qZ3,qZ2] at hs ⊢
   split at hs
   ·rename_i hh
    obtain ⟨_,g1,g2⟩:=hh
    have hb:qGF b=qGF a:=g2 _ (by simp)
    obtain ⟨x,c,q1,q2,⟨y,c2,q5,q6,q7,q8⟩,q4⟩:=hB
    have ha':=(qNM q2 q1).D
    have hb':=(qNM q6 q5).D
    rw[qEA,qBA (by omega),qBA (by simp),qEA,qBA (by omega),qBA (by simp),qEA,qBA (by omega),qBA (by simp),i0,i1,qZ2,qZ3,qZ3,
     qUL g1,qUL (by rw[hb];exact g1),qEat (by omega) (by omega),qAA,qFR]
    rw[qBW g1 fun h2=>by
     rw[(qCJ h2).2.2,(qCJ (hb.trans h2)).2.2,<-Rat.intCast_mul,Rat.den_intCast]]
   ·exact absurd rfl hs
  ·omega
 rw[if_neg e15] at hs
 rw[qDA e15,if_neg e15]
 by_cases e16:nOp n=16
 ·rw[e16] at hc
  rw[if_pos (.inl e16)] at hs
  rw[qFA e16,if_pos e16]
  obtain ⟨m,m1,m2,m3⟩:=qEn hn (.inl e16)
  rcases vs with _ | ⟨a,_ | ⟨b,l⟩⟩<;>simp[qXA] at hc
  ·simp only[List.map_cons,List.map_nil,qZ3] at hs ⊢
   split at hs
   ·rename_i hh
    have hi:=qCJ hh
    have h1:=qWd (qHX ((hB.mem a (by simp)).mono (Nat.le_add_right B 1)) (by omega))
    have h2:=qDg hnn
    rw[m3] at h2
    have h2:=qWd h2
    unfold ti at h1 h2
    rw[qEA,qBA (by omega),qBA (by simp),i0,qZ3,hi.2.1,m2,m3]
    unfold ti
    rw[qAau (by omega) (by omega) (by omega),qAA]
    rfl
   ·exact absurd rfl hs
  ·omega
 rw[qDA e16,if_neg e16]
 by_cases e17:nOp n=17
 ·rw[e17] at hc
  rw[if_pos (.inr e17)] at hs
  rw[qFA e17,if_pos e17]
  obtain ⟨m,m1,m2,m3⟩:=qEn hn (.inr e17)
  rcases vs with _ | ⟨a,_ | ⟨b,l⟩⟩<;>simp[qXA] at hc
  ·simp only[List.map_cons,List.map_nil,qZ3] at hs ⊢
   split at hs
   ·rename_i hh
    have hi:=qCJ hh
    have h1:=qWd (qHX ((hB.mem a (by simp)).mono (Nat.le_add_right B 1)) (by omega))
    have h2:=qDg hnn
    rw[m3] at h2
    have h2:=qWd h2
    unfold ti at h1 h2
    rw[qEA,qBA (by omega),qBA (by simp),i0,qZ3,hi.2.1,m2,m3]
    unfold ti
    rw[qNat (by omega) (by omega) (by omega),qAA]
    rfl
   ·exact absurd rfl hs
  ·omega
 rw[if_neg (by omega)] at hs
 rw[qDA e17,if_neg e17]
 by_cases e18:nOp n=18
 ·rw[e18] at hc
  rw[if_pos e18] at hs
  rw[qFA e18,if_pos e18]
  rcases vs with _ | ⟨a,_ | ⟨b,_ | ⟨c,l⟩⟩⟩<;>simp[qXA] at hc
  ·simp only[List.map_cons,List.map_nil,qZ3,qZ2] at hs ⊢
   split at hs
   ·rename_i hh
    obtain ⟨d,P,rfl⟩:=qCm hh.1
    have hP:Canon d P:=hok _ (List.mem_cons_self)
    have hi:=qCJ hh.2
    have hsm:=qUal (hB.mem (.a d P) (by simp)) (by omega)
    have h1:=qWd (qHX ((hB.mem b (by simp)).mono (Nat.le_add_right B 1)) (by omega))
    rw[qEA,qBA (by omega),qBA (by simp),qEA,qBA (by omega),qBA (by simp),i0,i1,qZ2,qZ3,qZ3,hi.2.1]
    have e:encS (.a d P)=qCI d P:=rfl
    rw[e,qMat (N:=100000) (by omega) hP hsm (by omega),qAA]
    rfl
   ·exact absurd rfl hs
  ·omega
 rw[if_neg e18] at hs
 rw[qDA e18,if_neg e18]
 by_cases e19:nOp n=19
 ·rw[e19] at hc
  rw[if_pos e19] at hs
  rw[qFA e19,if_pos e19]
  rcases vs with _ | ⟨a,_ | ⟨b,_ | ⟨c,_ | ⟨d,l⟩⟩⟩⟩<;>simp[qXA] at hc
  ·simp only[List.map_cons,List.map_nil,qZ3,qZ2] at hs ⊢
   split at hs
   ·rename_i hh
    obtain ⟨d,P,rfl⟩:=qCm hh.1
    have hP:Canon d P:=hok _ (List.mem_cons_self)
    have hi:=qCJ hh.2.1
    have hj:=qCJ hh.2.2
    have hsm:=qUal (hB.mem (.a d P) (by simp)) (by omega)
    have h1:=qWd (qHX ((hB.mem b (by simp)).mono (Nat.le_add_right B 1)) (by omega))
    have h2:=qWd (qHX ((hB.mem c (by simp)).mono (Nat.le_add_right B 1)) (by omega))
    rw[qEA,qBA (by omega),qBA (by simp),qEA,qBA (by omega),qBA (by simp),qEA,qBA (by omega),qBA (by simp),i0,i1,i2,qZ2,qZ2,qZ2,qZ3,qZ3,qZ3,hi.2.1,hj.2.1]
    have e:encS (.a d P)=qCI d P:=rfl
    rw[e,qBq (N:=100000) (by omega) hP hsm (by omega) (by omega),qAA]
    rfl
   ·exact absurd rfl hs
  ·omega
 rw[if_neg e19] at hs
 rw[qDA e19,if_neg e19]
 have e20:nOp n=20:=by omega
 rw[qFA e20]
 rw[e20] at hc
 rw[if_pos e20] at hs
 rcases vs with _ | ⟨a,_ | ⟨b,l⟩⟩<;>simp[qXA] at hc
 ·simp only[List.map_cons,List.map_nil,qZ3] at hs ⊢
  split at hs
  ·rename_i hh
   have hi:=qCJ hh
   rw[qEA,qBA (by omega),qBA (by simp),i0,qZ3,hi.2.1]
   rfl
  ·exact absurd rfl hs
 ·omega
structure RM (A:qBs->Option SV) (G:Nod->List SV->Int ⊕ SV) (env:List qEK) (fns:List Interp):Prop where
 var:∀ nm,(env.find? fun b=>decide (b.1=nm)).map (·.2)=(A nm).map encS
 len:env.length<=1000000000
 call:∀ t n vs B,Hs vs B->B<=29000->qKJ (t,env,fns) n (vs.map encS)=some ((match G n vs with | .inl e=>(qND,e,()) | .inr v=>(encS v,0,())),((t,env,fns),()))
theorem qMah (x0:Xe) (hl:x0.2.1.length<=1000000000) (n:Nod):∀ (m i:Nat),i+m=x0.2.1.length->
 match (x0.2.1.drop i).find? (fun b=>decide (b.1=n.2.2.1)) with
 |none=>∃ y,qPA qKD (x0,n,qND,0,(i:Int),())=some (.exit 1,(x0,y))
 |some b=>∃ y,qPA qKD (x0,n,qND,0,(i:Int),())=some (.ret,(x0,n,(if b.2.1=n.2.1 then b.2 else qND),(if b.2.1=n.2.1 then 0 else 3),y)):=by
 intro m
 induction m with
 |zero=>
  intro i hi
  have e:x0.2.1.drop i=[]:=qY7 (by omega)
  rw[e]
  exact ⟨_,qUA (by unfold qKD;simp only;rw[qJA (by omega)]) (by simp)⟩
 |succ m ih=>
  intro i hi
  have hil:i < x0.2.1.length:=by omega
  have hd:=qY6 hil
  have hg:x0.2.1.getD i qJU=x0.2.1[i]:=by simp[qZ4,hil]
  rw[hd]
  generalize x0.2.1[i]=b at hg hd
  have hstep:qKD (x0,n,qND,0,(i:Int),())=if b.1=n.2.2.1 then some (.ret,(x0,n,(if b.2.1=n.2.1 then b.2 else qND),(if b.2.1=n.2.1 then 0 else 3),(i:Int),())) else some (.normal,(x0,n,qND,0,((i+1:Nat):Int),())):=by
   unfold qKD
   simp only
   rw[qGA (by omega),qEA,qBA (by omega),qBA (by omega),qZ0,hg,w64 (by omega)]
   by_cases h1:b.1=n.2.2.1
   ·rw[show (b.1==n.2.2.1)=true by simpa using h1,if_pos h1,qOA,qEA,qBA (by omega),qBA (by omega)]
    by_cases h2:b.2.1=n.2.1
    ·rw[qID h2,if_pos h2,if_pos h2,qEA,qBA (by omega),qBA (by omega)]
    ·rw[qDE h2,if_neg h2,if_neg h2]
   ·rw[show (b.1==n.2.2.1)=false by simpa using h1,if_neg h1,qVA];rfl
  by_cases h1:b.1=n.2.2.1
  ·rw[if_pos h1] at hstep
   rw[List.find?_cons,qZ10 h1]
   exact ⟨_,qUA hstep (by simp)⟩
  ·rw[if_neg h1] at hstep
   rw[List.find?_cons,qZ9 h1]
   have:=ih (i+1) (by omega)
   simp only
   cases hf:(x0.2.1.drop (i+1)).find? (fun b=>decide (b.1=n.2.2.1)) with
   |none=>
    rw[hf] at this
    obtain ⟨y,hy⟩:=this
    exact ⟨y,by rw[qAB hstep,hy]⟩
   |some c=>
    rw[hf] at this
    obtain ⟨y,hy⟩:=this
    exact ⟨y,by rw[qAB hstep,hy]⟩
def qRan (A:qBs->Option SV) (G:Nod->List SV->Int ⊕ SV) (x0:Xe) (ev:Xe->Int->Option ((Val×Int×Int×Unit)×(Xe×Unit))) (d:Nat):Prop:=
 ∀ (n:Nod) (k:Tf) (p:Nat) (rest:List Nod),x0.1.drop p=n::(k.flat++rest)->(cons n k nil).wf=true->(0:Int)∉(cons n k nil).srt->qPT (cons n k nil)->k.dep+1<=d->
  match evF A G (cons n k nil) with
  |.inl e=>∃ v j,ev x0 (p:Int)=some ((v,j,e,()),(x0,()))
  |.inr [v]=>ev x0 (p:Int)=some ((encS v,((p+1+k.size:Nat):Int),0,()),(x0,()))
  |.inr _=>False
theorem qVu {A:qBs->Option SV} {G:Nod->List SV->Int ⊕ SV} (n:Nod) (k r:Tf):evF A G (cons n k r)=match evF A G (cons n k nil) with
 |.inl e=>.inl e
 |.inr us=>match evF A G r with
  |.inl e=>.inl e
  |.inr ws=>.inr (us++ws):=by
 simp only[evF]
 cases evF A G k with
 |inl e=>rfl
 |inr vs=>
  simp only
  cases evN A G n vs with
  |inl e=>rfl
  |inr v=>
   simp only
   cases evF A G r<;>rfl
theorem qBaj {A:qBs->Option SV} {G:Nod->List SV->Int ⊕ SV} (hE:EA A G) {x0:Xe} (ht:x0.1.length<=20000) {ev:Xe->Int->Option ((Val×Int×Int×Unit)×(Xe×Unit))} {d:Nat} (hev:qRan A G x0 ev d) (m:Nod) :
 ∀ (k:Tf) (p:Nat) (rest:List Nod) (acc:List Val) (idx:Nat),x0.1.drop p=k.flat++rest->k.wf=true->(0:Int)∉k.srt->qPT k->k.dep<=d->((idx+k.len:Nat):Int)=m.2.2.2.2->acc.length+k.len<=100000->idx+k.len<=100000->
 match evF A G k with
 |.inl e=>∃ y,qPA (qOC ev) (x0,(p:Int),qND,(0:Int),(0:Int),m,acc,(idx:Int),())=some (.ret,y)/\y.1=x0/\y.2.2.2.2.1=e
 |.inr vs=>∃ z,qPA (qOC ev) (x0,(p:Int),qND,(0:Int),(0:Int),m,acc,(idx:Int),())=some (.exit 0,(x0,((p+k.size:Nat):Int),qND,(0:Int),(0:Int),m,acc++vs.map encS,z)):=by
 intro k
 induction k with
 |nil=>
  intro p rest acc idx _ _ _ _ _ hK _ _
  simp only[evF]
  simp only[len,Nat.add_zero] at hK
  refine ⟨_,qUA (y:=(x0,(p:Int),qND,(0:Int),(0:Int),m,acc++[],(idx:Int),())) ?_ (by simp)⟩
  unfold qOC
  simp only
  rw[qJA (by omega),qY4]
 |cons n k r ik ir=>
  intro p rest acc idx hd hw hs hn hdep hK h1 h2
  obtain ⟨w1,w2,w3,w4⟩:=qWH.1 hw
  obtain ⟨s1,s2,s3⟩:=qVI.1 hs
  simp only[dep] at hdep
  simp only[len] at hK h1 h2
  simp only[flat,qY5,qZ1] at hd
  have hsing:=hev n k p (r.flat++rest) hd (qWH.2 ⟨w1,w2,w3,rfl⟩) (qVI.2 ⟨s1,s2,by simp[srt]⟩) (fun x hx=>hn x (by simp only[flat,qY12,qZ7] at hx ⊢;rcases hx with h | h | h;exact .inl h;exact .inr (.inl h);cases h)) (by omega)
  have hlen:p+1+k.size+r.size+rest.length=x0.1.length:=by
   have:=congrArg List.length hd
   simp only[List.length_drop,qY11,qZ6,qMC] at this
   omega
  have hd':x0.1.drop (p+1+k.size)=r.flat++rest:=by
   have:=congrArg (List.drop (1+k.size)) hd
   rw[List.drop_drop] at this
   have e:p+(1+k.size)=p+1+k.size:=by omega
   rw[e] at this
   rw[this,Nat.add_comm 1,List.drop_succ_cons,List.drop_append_of_le_length (by rw[qMC];omega),qY7 (by rw[qMC];omega),qY15]
  rw[qVu]
  cases he:evF A G (cons n k nil) with
  |inl e=>
   rw[he] at hsing
   obtain ⟨v,j,hy⟩:=hsing
   simp only
   refine ⟨(x0,(p:Int),qND,(0:Int),e,m,acc,(idx:Int),()),qUA ?_ (by simp),rfl,rfl⟩
   unfold qOC
   simp only
   rw[qGA (by omega),hy,qAA,qDE (qDai hE _ e he)]
  |inr us=>
   rw[he] at hsing
   match us,hsing with
   |[v],hsing=>
    simp only at hsing ⊢
    have hgo:qOC ev (x0,(p:Int),qND,(0:Int),(0:Int),m,acc,(idx:Int),())=some (.normal,(x0,((p+1+k.size:Nat):Int),qND,(0:Int),(0:Int),m,acc++[encS v],((idx+1:Nat):Int),())):=by
     unfold qOC
     simp only
     rw[qGA (by omega),hsing,qAA,qID rfl,qBA (by simp[qKF];omega),w64 (by omega)]
     rfl
    have ihr:=ir (p+1+k.size) rest (acc++[encS v]) (idx+1) hd' w4 s3 (fun x hx=>hn x (by simp only[flat,qY12,qZ7];exact .inr (.inr hx))) (by omega) (by omega) (by simp;omega) (by omega)
    cases hr:evF A G r with
    |inl e=>
     rw[hr] at ihr
     obtain ⟨y,h,h'⟩:=ihr
     exact ⟨y,by rw[qAB hgo,h],h'⟩
    |inr ws=>
     rw[hr] at ihr
     simp only at ihr ⊢
     obtain ⟨z,ihr⟩:=ihr
     refine ⟨z,?_⟩
     rw[qAB hgo,ihr]
     have e:p+1+k.size+r.size=p+(cons n k r).size:=by simp only[size];omega
     rw[e]
     simp
theorem qVan {A:qBs->Option SV} {G:Nod->List SV->Int ⊕ SV} (hE:EA A G) {x0:Xe} (hM:RM A G x0.2.1 x0.2.2) (ht:x0.1.length<=360) :
 ∀ d,qRan A G x0 (qLE d) d:=by
 intro d
 induction d with
 |zero=>intro n k p rest _ _ _ _ h;omega
 |succ d ih=>
  intro n k p rest hd hw hs hn hdep
  obtain ⟨w1,w2,w3,w4⟩:=qWH.1 hw
  obtain ⟨s1,s2,s3⟩:=qVI.1 hs
  obtain ⟨g1,g2⟩:=qIK (d:=qPE) hd
  have hnk:qPT k:=fun m hm=>hn m (by simp only[flat,qY12,qZ7];exact .inr (.inl hm))
  have hd':x0.1.drop (p+1)=k.flat++rest:=by
   have:=congrArg (List.drop 1) hd
   rw[List.drop_drop] at this
   simpa using this
  have hlen:p+1+k.size+rest.length=x0.1.length:=by
   have:=congrArg List.length hd
   simp only[List.length_drop,qY11,qZ6,qMC] at this
   omega
  have hkl:=qWK k
  have hK:n.2.2.2.2=(k.len:Int):=w2
  have hkids:=qBaj hE (by omega) ih n k (p+1) rest [] 0 hd' w3 s1 hnk (by omega) (by rw[hK];simp) (by simp;omega) (by omega)
  have hwp:qI ((p:Int)+1)=((p+1:Nat):Int):=by rw[w64 (by omega)];rfl
  have hunf:qLE (d+1) x0 (p:Int)=qMI (qLE d) x0 (p:Int):=rfl
  rw[hunf]
  unfold qMI
  have hz:((0:Int),false,([]:qBs),([]:List qBs),([]:List qBs))=qND:=rfl
  rw[qEA,qBA (by omega),qBA (by omega),qZ0,g1,hwp,hz]
  rw[show ((0:Nat):Int)=0 from rfl] at hkids
  simp only[evF]
  cases hk:evF A G k with
  |inl e=>
   rw[hk] at hkids
   obtain ⟨y,h,h1,h2⟩:=hkids
   simp only
   rw[h]
   simp only[qAA,qQC,qNC,qOA,qVA]
   exact ⟨_,_,by rw[h1,h2]⟩
  |inr vs=>
   rw[hk] at hkids
   obtain ⟨e1,e2,e3⟩:=qWB hE k w3 s1 hnk vs hk
   obtain ⟨z,hkids⟩:=hkids
   simp only
   rw[hkids]
   simp only[qAA,qHB,qOA,qY15]
   have hvl:vs.length=k.len:=by
    have:=congrArg List.length e1
    rw[List.length_map,qKM] at this
    exact this
   unfold evN
   by_cases h4:nOp n=4
   ·rw[if_pos h4]
    have hnode:qKE x0 n (vs.map encS)=some ((match (A (qCP n)) with | none=>(qND,7,()) | some v=>if qGF v=qGG n then (encS v,0,()) else (qND,3,())),(x0,())):=by
     unfold qKE
     have hO:n.1=4:=h4
     rw[hz,qDA (by omega),qDA (by omega),qDA (by omega),qFA hO]
     have hv:=hM.var n.2.2.1
     have hA:A (qCP n)=A n.2.2.1:=rfl
     have key:=qMah x0 hM.len n x0.2.1.length 0 (by omega)
     rw[show ((0:Nat):Int)=0 from rfl,List.drop_zero] at key
     rw[hA]
     cases hf:x0.2.1.find? (fun b=>decide (b.1=n.2.2.1)) with
     |none=>
      rw[hf] at key hv
      obtain ⟨y,hy⟩:=key
      rw[hy]
      simp only[qAA,qHB,qOA]
      cases hAn:A n.2.2.1 with
      |none=>rfl
      |some v=>rw[hAn] at hv;cases hv
     |some b=>
      rw[hf] at key hv
      obtain ⟨y,hy⟩:=key
      rw[hy]
      simp only[qAA,qQC,qNC,qOA,qVA]
      cases hAn:A n.2.2.1 with
      |none=>rw[hAn] at hv;cases hv
      |some v=>
       rw[hAn] at hv
       simp only[Option.map_some,Option.some.injEq] at hv
       rw[hv]
       simp only[qFR]
       by_cases q:qGF v=n.2.1
       ·rw[if_pos q,if_pos q,if_pos q]
       ·rw[if_neg q,if_neg q,if_neg q]
    rw[hnode]
    cases A (qCP n) with
    |none=>exact ⟨_,_,rfl⟩
    |some v=>
     simp only
     by_cases q:qGF v=qGG n
     ·rw[if_pos q,if_pos q]
      rfl
     ·rw[if_neg q,if_neg q]
      exact ⟨_,_,rfl⟩
   ·rw[if_neg h4]
    by_cases h5:nOp n=5
    ·rw[if_pos h5]
     have hnode:qKE x0 n (vs.map encS)=some ((match G n vs with | .inl e=>(qND,e,()) | .inr v=>(encS v,0,())),(x0,())):=by
      unfold qKE
      have hO:n.1=5:=h5
      have hc:=hM.call x0.1 n vs _ e3 (by omega)
      rw[qDA (by omega),qDA (by omega),qDA (by omega),qDA (by omega),qFA hO]
      have hx:(x0.1,x0.2.1,x0.2.2)=x0:=rfl
      rw[hx] at hc
      rw[hc,qAA]
     rw[hnode]
     cases G n vs with
     |inl e=>exact ⟨_,_,rfl⟩
     |inr v=>rfl
    ·rw[if_neg h5]
     obtain ⟨f1,f2⟩:=qFV.1 w1
     rw[qQah (x0:=x0) (f:=op1 k) f1 h4 h5 (by rw[hvl,<-w2];exact f2) (by rw[e1];exact s2) e2 e3 (by omega) (qIt (hn n (by simp[flat]))) (by omega)]
     rfl
theorem qPas {t:List Nod} {env:List qEK} (hv:∀ b∈env,qNF b.2=true) (he:env.length<=1000000000):RM (qSw env) G0 env []:=by
 refine ⟨fun nm=>?_,he,fun t n vs B _ _=>?_⟩
 ·unfold qSw
  cases hf:env.find? (fun b=>decide (b.1=nm)) with
  |none=>rfl
  |some b=>
   obtain ⟨s,s1,s2,s3⟩:=qVj (hv b (List.mem_of_find?_eq_some hf))
   rw[Option.map_some,Option.bind_some,s1,s3]
   rfl
 ·unfold qKJ
  have hz:((0:Int),false,([]:qBs),([]:List qBs),([]:List qBs))=qND:=rfl
  rw[hz,qUA (y:=(((t,env,([]:List Interp)):Xe),vs.map encS,n,qND,(0:Int),(0:Int),())) (e:=.exit 0) (by unfold qBK;simp only;rw[qJA (by simp)]) (by simp)]
  simp only[qAA,qHB,qOA]
  rfl
theorem qVaf {t:List Nod} {env:List qEK} (ht:qFg t) (hl:t.length<=360) (hs:∀ b∈env,SmallV b.2) (he:env.length<=1000000000):qKq t env []=some (((qGZ t env).1,(qGZ t env).2,()),()):=by
 unfold qKq
 obtain ⟨b,b1,b2⟩:=qCX (t:=t) fun n hn=>by have:=ht n hn;omega
 rw[b1,qAA]
 cases b with
 |false=>rw[qEV fun h=>by have:=b2.2 h.2;cases this];rfl
 |true=>
  simp only[qY2,qVA]
  obtain ⟨F,hF⟩:=b2.1 rfl
  have hz:((0:Int),false,([]:qBs),([]:List qBs),([]:List qBs))=qND:=rfl
  have key:=qOG (step:=qOV) (fun k=>(t,env,([]:List Interp),qND,(0:Int),(k:Int),())) (fun k=>(t,env,([]:List Interp),qND,(1:Int),(k:Int),())) env.length (E:=.exit 0) (B:=.ret) (by simp) (by simp) (fun k=>qNF (env.getD k qJU).2) (fun k hk=>by
   unfold qOV
   simp only
   have hm:(env.getD k qJU)∈env:=by
    have:env.getD k qJU=env[k]:=by simp[qZ4,hk]
    rw[this];exact List.getElem_mem hk
   rw[qGA (by omega),qEA,qBA (by omega),qBA (by omega),qZ0,qHT (N:=73) (by omega) (hs _ hm).sh,qAA,w64 (by omega)]
   cases qNF (env.getD k qJU).2<;>rfl) (by
   unfold qOV
   simp only
   rw[qJA (by omega)])
  rw[qHM env qJU (fun b=>qNF b.2)] at key
  rw[show ((0:Nat):Int)=0 from rfl] at key
  rw[hz]
  rcases key with ⟨k1,k2⟩ | ⟨k1,k,k2⟩
  ·have hv:∀ b∈env,qNF b.2=true:=fun b hb=>List.all_eq_true.1 k1 b hb
   rw[k2]
   simp only[qAA,qHB,qOA]
   rw[qUA (y:=(t,env,([]:List Interp),qND,(0:Int),(0:Int),())) (e:=.exit 2) (by unfold qCi;simp only;rw[qJA (by simp)]) (by simp)]
   simp only[qAA,qHB,qOA]
   rw[qMm hv hF]
   obtain ⟨n,k,rfl⟩:=hF.one
   have hE:=qFaf hs
   have hM:=qPas (t:=t) hv he
   have hfl:=hF.flat
   obtain ⟨d,hd1,hd2⟩:=qEx
   have hdep:=hF.dep
   simp only[dep] at hdep
   have hsF:qPT (cons n k nil):=fun m hm=>ht m (by rw[<-hfl];exact hm)
   have hev:=qVan hE (x0:=(t,env,[])) hM hl d n k 0 [] (by rw[<-hfl];simp[flat]) hF.wf hF.srt hsF (by omega)
   rw[hd1]
   rw[show ((0:Nat):Int)=0 from rfl] at hev
   rcases qWs (A:=qSw env) (G:=G0) (n:=n) (k:=k) with ⟨e,hv⟩ | ⟨v,hv⟩
   ·rw[hv] at hev ⊢
    obtain ⟨v,j,hy⟩:=hev
    rw[hy,qAA,qDE (qDai hE _ _ hv)]
   ·rw[hv] at hev ⊢
    simp only at hev ⊢
    rw[hev,qAA,qID rfl]
    obtain ⟨_,_,q3⟩:=qWB hE _ hF.wf hF.srt hsF _ hv
    have hz:(cons n k nil).size<=360:=by rw[<-qMC,hfl];exact hl
    have hB:=q3.mem v (by simp)
    unfold qLY
    have h1:(encS v).2.2.2.1.length<=qKF/\(encS v).2.2.2.2.length<=qKF:=by
     cases v with
     |a d P=>have:=hB.2.2;simp only[encS,qJE,qNI,qKF];omega
     |b x=>simp[encS]
     |z x=>simp[encS]
     |q x=>simp[encS]
    rw[qBA h1.1,qBA h1.2,qAA]
  ·rw[k2]
   simp only[qAA,qQC,qNC,qOA,qVA]
   rw[qEV fun h=>by rw[List.all_eq_true.2 h.1] at k1;cases k1]
theorem qVag {t:List Nod} {env:List qEK} (ht:qFg t) (hl:t.length<=1100) (hs:∀ b∈env,SmallV b.2):(qGZ t env).1.2.2.2.1.length<=2000000000/\(qGZ t env).1.2.2.2.2.length<=2000000000:=by
 by_cases h:(∀ b∈env,qNF b.2=true)/\∃ F,VT t F
 ·obtain ⟨hv,F,hF⟩:=h
  rw[qMm hv hF]
  have hE:=qFaf hs
  have hfl:=hF.flat
  obtain ⟨n,k,rfl⟩:=hF.one
  rcases qWs (A:=qSw env) (G:=G0) (n:=n) (k:=k) with ⟨e,hv⟩ | ⟨v,hv⟩
  ·rw[hv];simp[qND]
  ·rw[hv]
   simp only
   have hsF:qPT (cons n k nil):=fun m hm=>ht m (by rw[<-hfl];exact hm)
   obtain ⟨_,_,q3⟩:=qWB hE _ hF.wf hF.srt hsF _ hv
   have hz:(cons n k nil).size<=1100:=by rw[<-qMC,hfl];exact hl
   have hB:=q3.mem v (by simp)
   cases v with
   |a d P=>have:=hB.2.2;simp only[encS,qJE,qNI];omega
   |b x=>simp[encS]
   |z x=>simp[encS]
   |q x=>simp[encS]
 ·rw[qEV h];simp[qND]
theorem qCd {t:List Nod} {env:List qEK} (ht:qFg t) (hl:t.length<=360) (hs:∀ b∈env,SmallV b.2) (he:env.length<=1000000000):qNQ t env []=some ((true,()),()):=by
 have h1:=qBad ht (by omega) hs he
 have h2:=qVaf ht hl hs he
 have h3:=qVag (t:=t) ht (by omega) hs
 have h4:=qHS (a:=(qGZ t env).1) (b:=(qGZ t env).1) h3.1 h3.2
 unfold qNQ qUs qJr
 rw[h1,h2]
 simp only[qAA]
 rw[qFA rfl,h4,qZ10 rfl]
 simp only[qAA,qOA]
 by_cases e:(qGZ t env).2=0
 ·rw[qFA e]
  by_cases e1:(qGZ t env).1.1=1
  ·rw[qFA e1,qAA,qAA]
   simp
  ·rw[qDA e1];rfl
 ·rw[qDA e];rfl
theorem qHad (kids:List (List Nod)) (hl:kids.length<=1000):∀ (m i:Nat) (t:List Nod),i+m=kids.length->t.length+(kids.drop i).flatten.length<=100000->
 qPA qRU (kids,t,(i:Int),())=some (.exit 0,(kids,t++(kids.drop i).flatten,(kids.length:Int),())):=by
 intro m
 induction m with
 |zero=>
  intro i t hi _
  have e:kids.drop i=[]:=qY7 (by omega)
  rw[e]
  refine qUA ?_ (by simp)
  unfold qRU
  simp only
  have:i=kids.length:=by omega
  rw[qJA (by omega),this]
  simp
 |succ m ih=>
  intro i t hi hb
  have hil:i < kids.length:=by omega
  have hd:=qY6 hil
  have hg:kids.getD i []=kids[i]:=by simp[qZ4,hil]
  rw[hd] at hb ⊢
  simp only[List.flatten_cons,qZ6] at hb
  rw[qAB (y:=(kids,t++kids[i],((i+1:Nat):Int),())) (by
   unfold qRU
   simp only
   rw[qGA (by omega),qEA,qBA (by omega),qBA (by omega),qZ0,hg,qBA (by simp only[qKF];omega),w64 (by omega)]
   rfl)]
  rw[ih (i+1) _ (by omega) (by simp only[qZ6];omega)]
  simp only[List.flatten_cons,qZ1]
theorem qQm {n:Nod} {kids:List (List Nod)} (hl:kids.length<=1000) (hb:kids.flatten.length<=90000):qFd n kids=some (((n.1,n.2.1,n.2.2.1,n.2.2.2.1,(kids.length:Int))::kids.flatten,()),()):=by
 unfold qFd
 have:=qHad kids hl kids.length 0 [(n.1,n.2.1,n.2.2.1,n.2.2.2.1,(kids.length:Int))] (by omega) (by simp only[List.drop_zero,qY11,List.length_nil];omega)
 rw[show ((0:Nat):Int)=0 from rfl] at this
 rw[this]
 simp only[qAA,qHB,qOA,List.drop_zero]
 rfl
theorem qVQ.len {VS:List Vr} {ss:List Int} {N d:Nat} {l:List Nod} (h:qVQ VS ss N d l):l.length<=N:=by
 obtain ⟨K,hK⟩:=h
 rw[<-hK.flat,qMC];exact hK.size
theorem qVQ.sub {VS:List Vr} {ss:List Int} {N d:Nat} {l:List Nod} (h:qVQ [] ss N d l):qVQ VS ss N d l:=by
 obtain ⟨K,hK⟩:=h
 exact ⟨K,hK.flat,hK.wf,hK.srt,hK.nz,hK.sh,hK.size,hK.dep,fun x hx h4=>absurd (hK.vars x hx h4) qY16,hK.noap⟩
theorem qKi {o k:Int} (h:1<=o/\o<=20) (h':o≠3/\o≠4/\o≠5/\o≠16/\o≠17):qRC ((o,0,[],[],k):Nod)=true:=by
 unfold qRC
 simp only[nOp,qGG,qCP,qQT]
 rw[if_neg (by omega),if_neg (by omega),if_neg (by omega),qZ10 h]
 rfl
theorem qKV {VS:List Vr} {ss:List Int} {N d:Nat} {kids:List (List Nod)} {o s:Int} (hK:qVQ VS ss N d kids.flatten) (hl:kids.length=ss.length) (h1000:kids.length<=1000) (hN:N<=50000) (h:1<=o/\o<=20) (h':o≠3/\o≠4/\o≠5/\o≠16/\o≠17)
 (hc:qXA o ss.length=true) (hs:qDD ((o,0,[],[],(ss.length:Int)):Nod) (kids.flatten.getD 0 qPE).1 ss=s) (hz:s≠0):∃ t,qEe o kids=some ((t,()),())/\qVQ VS [s] (N+1) (d+1) t:=by
 refine ⟨(o,0,[],[],(kids.length:Int))::kids.flatten,?_,?_⟩
 ·unfold qEe
  rw[qQm h1000 (by have:=hK.len;omega),qAA]
 ·rw[hl]
  exact hK.node (qKi h h') hc rfl hs hz (by simp[qQT]) (fun e=>absurd e h'.2.1) h'.2.2.1
theorem qJap {d:Int} {P:KV} (hP:P.length<=100) (hs:∀ p∈P,(ti p.1).length<=73/\(ti p.2).length<=73):∀ (m i:Nat) (t:List Nod),i+m=P.length->qVQ [] [4] (2+3 * i) (2+i) t->
 ∃ t',qPA qJH (qCI d P,([]:List Nod),0,t,(i:Int),())=some (.exit 1,(qCI d P,([]:List Nod),0,t',(P.length:Int),()))/\qVQ [] [4] (2+3 * P.length) (2+P.length) t':=by
 intro m
 induction m with
 |zero=>
  intro i t hi hg
  have:i=P.length:=by omega
  refine ⟨t,qUA ?_ (by simp),by rw[<-this];exact hg⟩
  unfold qJH
  simp only
  rw[qJA (by rw[qJE];omega),this]
 |succ m ih=>
  intro i t hi hg
  have hil:i < P.length:=by omega
  have hp:=hs _ (List.getElem_mem hil)
  have hlen:=hg.len
  have hk:=((hg.app ((qJh hp.1).mono (Nat.le_refl _) (show 1<=2+i by omega))).app ((qJh hp.2).mono (Nat.le_refl _) (show 1<=2+i by omega)))
  have hfl:[t,[((3:Int),(2:Int),([]:qBs),ti P[i].1,(0:Int))],[((3:Int),(2:Int),([]:qBs),ti P[i].2,(0:Int))]].flatten=t++[((3:Int),(2:Int),([]:qBs),ti P[i].1,(0:Int))]++[((3:Int),(2:Int),([]:qBs),ti P[i].2,(0:Int))]:=by simp
  have hj:=qQm (n:=((19:Int),(0:Int),([]:qBs),([]:qBs),(0:Int))) (kids:=[t,[((3:Int),(2:Int),([]:qBs),ti P[i].1,(0:Int))],[((3:Int),(2:Int),([]:qBs),ti P[i].2,(0:Int))]]) (by simp) (by simp;omega)
  rw[hfl] at hj
  have hn:=hk.node (n:=((19:Int),(0:Int),([]:qBs),([]:qBs),(3:Int))) (s:=4) (qKi (by omega) (by omega)) rfl rfl (by simp[qDD,nOp]) (by omega) (by simp[qQT]) (fun e=>by simp[nOp] at e) (by simp[nOp])
  obtain ⟨t',h1,h2⟩:=ih (i+1) _ (by omega) (hn.mono (show 2+3 * i+1+1+1<=2+3 * (i+1) by omega) (show 2+i+1<=2+(i+1) by omega))
  refine ⟨t',?_,h2⟩
  rw[qAB (y:=(qCI d P,([]:List Nod),0,_,((i+1:Nat):Int),())) (by
   unfold qJH
   simp only
   rw[qGA (by rw[qJE];omega),qJA (by omega),qEA,qBA (by omega),qBA (by rw[qJE];omega),qZ0,qRT hil,qTY hil]
   unfold qXO
   rw[qAA,qEA,qBA (by omega),qBA (by rw[qNI];omega),qAA]
   simp only
   rw[hj,qAA,w64 (by omega)]
   rfl)]
  exact h1
def qKap (v:SV):Prop:=okS v/\match v with
 |.b _=>True
 |.z n=>(ti n).length<=73
 |.q r=>(txt r).length<=73
 |.a d P=>(ti d).length<=73/\(∀ p∈P,(ti p.1).length<=73/\(ti p.2).length<=73)/\P.length<=100
def qHY:SV->Nat
 |.a _ P=>P.length
 |_=>0
theorem qDaf {v:SV} (h:qKap v):Short 73 (encS v):=by
 obtain ⟨h1,h2⟩:=h
 cases v with
 |b x=>exact ⟨by simp[encS],fun s hs=>by simp[encS] at hs,fun s hs=>by simp[encS] at hs,by simp[encS]⟩
 |z n=>exact ⟨h2,fun s hs=>by simp[encS] at hs,fun s hs=>by simp[encS] at hs,by simp[encS]⟩
 |q r=>exact ⟨h2,fun s hs=>by simp[encS] at hs,fun s hs=>by simp[encS] at hs,by simp[encS]⟩
 |a d P=>
  obtain ⟨a1,a2,a3⟩:=h2
  exact (Sm.short (N:=73) ⟨a1,a2,by omega⟩)
theorem qQj {v:SV} (h:qKap v):∃ t,qIJ (encS v)=some ((t,0,()),())/\qVQ [] [qGF v] (2+3 * qHY v) (2+qHY v) t:=by
 have hsh:=qDaf h
 obtain ⟨h1,h2⟩:=h
 have hval:=qHT (N:=73) (by omega) hsh
 rw[qKae h1] at hval
 unfold qIJ
 rw[hval,qAA]
 simp only[qY2,qVA]
 cases v with
 |b x=>
  cases x
  ·exact ⟨_,rfl,qBo.mono (by simp[qHY]) (by simp[qHY])⟩
  ·exact ⟨_,rfl,qXw.mono (by simp[qHY]) (by simp[qHY])⟩
 |z n=>exact ⟨_,rfl,(qJh h2).mono (by simp[qHY]) (by simp[qHY])⟩
 |q r=>exact ⟨_,rfl,(qMaf h2).mono (by simp[qHY]) (by simp[qHY])⟩
 |a d P=>
  obtain ⟨a1,a2,a3⟩:=h2
  have hk:=(qJh (VS:=[]) a1).node (n:=((20:Int),(0:Int),([]:qBs),([]:qBs),(1:Int))) (s:=4) (qKi (by omega) (by omega)) rfl rfl (by simp[qDD,nOp]) (by omega) (by simp[qQT]) (fun e=>by simp[nOp] at e) (by simp[nOp])
  obtain ⟨t',e1,e2⟩:=qJap (d:=d) a3 a2 P.length 0 _ (by omega) (hk.mono (by omega) (by omega))
  obtain ⟨F,hF⟩:=e2
  have hvt:=qRat ⟨fun v h=>absurd h qY16,fun v h=>absurd h qY16⟩ hF (by omega) (by omega)
  obtain ⟨b,b1,b2⟩:=qCX (t:=t') fun n hn=>by have:=hF.sh n hn;omega
  have hb:b=true:=b2.2 ⟨F,hvt⟩
  have e:encS (.a d P)=qCI d P:=rfl
  rw[e]
  simp only
  rw[qDA (by omega),qDA (by omega),qDA (by omega)]
  unfold qXO
  simp only[qAA]
  have hj:=qQm (n:=((20:Int),(0:Int),([]:qBs),([]:qBs),(0:Int))) (kids:=[[((3:Int),(2:Int),([]:qBs),ti d,(0:Int))]]) (by simp) (by simp)
  rw[hj,qAA]
  rw[show ((0:Nat):Int)=0 from rfl] at e1
  have e1':qPA qJH (qCI d P,([]:List Nod),0,(((20:Int),(0:Int),([]:qBs),([]:qBs),(([[((3:Int),(2:Int),([]:qBs),ti d,(0:Int))]].length:Nat):Int)):Nod)::[[((3:Int),(2:Int),([]:qBs),ti d,(0:Int))]].flatten,0,())=some (.exit 1,(qCI d P,([]:List Nod),0,t',(P.length:Int),())):=e1
  rw[e1']
  simp only[qAA,qHB,qOA]
  rw[b1,qAA,hb]
  exact ⟨t',rfl,⟨F,hF⟩⟩
theorem qOz {c:List Int×Int} (hc:CI c) {s:Int} (hs:1<=s/\s<=4):∃ v c',qIF c s=some ((encS v,()),(c',()))/\CI c'/\qGF v=s/\qKap v/\qHY v<=1:=by
 have hf:∀ r:Int,-10<=r/\r<=10->qQG r=some ((ti r,()),())/\(ti r).length<=73:=fun r h=>by
  refine ⟨qTI ⟨by omega,by omega⟩,?_⟩
  have:=qIE (r:Rat)
  have:=qJY (n:=r) (by omega)
  unfold ti;omega
 unfold qIF
 by_cases h1:s=1
 ·obtain ⟨r,c',n1,n2,n3,n4⟩:=qGC hc (n:=2) (by omega)
  rw[qFA h1,n1,qAA,h1]
  exact ⟨.b (r==1),c',rfl,n2,rfl,⟨trivial,trivial⟩,by simp[qHY]⟩
 rw[qDA h1]
 by_cases h4:s=4
 ·obtain ⟨r1,c1,a1,a2,a3,a4⟩:=qGC hc (n:=3) (by omega)
  obtain ⟨r2,c2,b1,b2,b3,b4⟩:=qGC a2 (n:=3) (by omega)
  obtain ⟨r3,c3,d1,d2,d3,d4⟩:=qGC b2 (n:=3) (by omega)
  rw[qFA h4,a1,qAA,(hf r1 (by omega)).1,qAA,b1,qAA,(hf r2 (by omega)).1,qAA,d1,qAA,(hf r3 (by omega)).1,qAA,h4]
  have hst:=qBq (N:=73) (by omega) (d:=r1) (i:=r2) (n:=r3) (qLi r1) (qTam (hf r1 (by omega)).2) (hf r2 (by omega)).2 (hf r3 (by omega)).2
  have e:(qCI r1 []:Val)=((4:Int),false,ti r1,([]:List qBs),([]:List qBs)):=rfl
  rw[e] at hst
  simp only
  rw[hst,qAA]
  have hlen:=qNaf (d:=r1) (i:=r2) (n:=r3) (P:=[]) List.Pairwise.nil
  have hsm:=qUau (N:=73) (d:=r1) (i:=r2) (n:=r3) (P:=[]) List.Pairwise.nil (qTam (hf r1 (by omega)).2) (hf r2 (by omega)).2 (hf r3 (by omega)).2 (by simp)
  refine ⟨.a r1 (stP r1 [] r2 r3),c3,rfl,d2,rfl,⟨qAq (qLi r1) r2 r3,hsm.num,hsm.els,?_⟩,?_⟩
  ·simp at hlen;omega
  ·simpa [qHY] using hlen
 ·rw[qDA h4]
  obtain ⟨r,c',n1,n2,n3,n4⟩:=qGC hc (n:=6) (by omega)
  rw[n1,qAA]
  simp only
  rw[w64 (by omega),(hf (r - 2) (by omega)).1,qAA]
  by_cases h2:s=2
  ·rw[h2]
   exact ⟨.z (r - 2),c',rfl,n2,rfl,⟨trivial,(hf (r - 2) (by omega)).2⟩,by simp[qHY]⟩
  ·have h3:s=3:=by omega
   rw[h3]
   exact ⟨.q ((r - 2:Int):Rat),c',rfl,n2,rfl,⟨trivial,(hf (r - 2) (by omega)).2⟩,by simp[qHY]⟩
def qGM (VS:List Vr) (c:List Int×Int) (s:Int) (N d:Nat) (r:Option (((List Nod)×Unit)×(qCA×Unit))):Prop:=∃ t c',r=some ((t,()),(c',()))/\CI c'/\qVQ VS [s] N d t
theorem qVw {VS:List Vr} {c:List Int×Int} (hc:CI c) {s:Int} (hs:1<=s/\s<=4):qGM VS c s 5 3 ((qIF c s).bind fun r2=>(qIJ r2.1.1).bind fun r3=>some ((r3.1.1,()),r2.2.1,())):=by
 obtain ⟨v,c',h1,h2,h3,h4,h5⟩:=qOz hc hs
 obtain ⟨t,t1,t2⟩:=qQj h4
 rw[h1,qAA,t1,qAA]
 rw[h3] at t2
 exact ⟨t,c',rfl,h2,(t2.mono (by omega) (by omega)).sub⟩
theorem qKam {c:List Int×Int} {VS:List Vr} {s:Int} (hl:VS.length<=1000):∀ (m i:Nat) (l:List Vr),i+m=VS.length->l.length<=i->
 qPA qQD (c,s,VS,l,(i:Int),())=some (.exit 0,(c,s,VS,l++(VS.drop i).filter (fun v=>decide (v.2=s)),(VS.length:Int),())):=by
 intro m
 induction m with
 |zero=>
  intro i l hi _
  have e:VS.drop i=[]:=qY7 (by omega)
  rw[e]
  refine qUA ?_ (by simp)
  unfold qQD
  simp only
  have:i=VS.length:=by omega
  rw[qJA (by omega),this]
  simp
 |succ m ih=>
  intro i l hi hb
  have hil:i < VS.length:=by omega
  have hd:=qY6 hil
  have hg:VS.getD i zVr=VS[i]:=by simp[qZ4,hil]
  rw[hd]
  generalize VS[i]=v at hg hd
  by_cases h:v.2=s
  ·rw[qAB (y:=(c,s,VS,l++[v],((i+1:Nat):Int),())) (by
    unfold qQD
    simp only
    rw[qGA (by omega),qEA,qBA (by omega),qBA (by omega),qZ0,hg,qFA h,qEA,qBA (by omega),qBA (by omega),qBA (by simp[qKF];omega),w64 (by omega)]
    rfl)]
   rw[ih (i+1) _ (by omega) (by simp;omega),List.filter_cons,if_pos (qZ10 h)]
   simp
  ·rw[qAB (y:=(c,s,VS,l,((i+1:Nat):Int),())) (by
    unfold qQD
    simp only
    rw[qGA (by omega),qEA,qBA (by omega),qBA (by omega),qZ0,hg,qDA h,w64 (by omega)]
    rfl)]
   rw[ih (i+1) _ (by omega) (by omega),List.filter_cons,if_neg (fun e=>h (of_decide_eq_true e))]
theorem qBP {VS:List Vr} (hV:VSok VS) (hl:VS.length<=1000) {c:List Int×Int} (hc:CI c) {s:Int} (hs:1<=s/\s<=4):qGM VS c s 5 3 (qEB c s VS):=by
 unfold qEB
 have key:=qKam (c:=c) (s:=s) hl VS.length 0 [] (by omega) (by simp)
 rw[show ((0:Nat):Int)=0 from rfl] at key
 rw[key]
 simp only[qAA,qHB,qOA,qY15,List.drop_zero]
 have hmem:∀ v∈VS.filter (fun v=>decide (v.2=s)),v∈VS/\v.2=s:=fun v hv=>by simpa using hv
 have hfl:(VS.filter (fun v=>decide (v.2=s))).length<=VS.length:=List.length_filter_le _ _
 generalize VS.filter (fun v=>decide (v.2=s))=L at hmem hfl
 by_cases h0:L.length=0
 ·rw[qFA (by omega)]
  exact qVw hc hs
 ·rw[qDA (by omega)]
  obtain ⟨r,c',n1,n2,n3,n4⟩:=qGC hc (n:=(L.length:Int)) (by omega)
  obtain ⟨k,rfl⟩:∃ k:Nat,r=k:=⟨r.toNat,by omega⟩
  have hk:k < L.length:=by omega
  have hg:L.getD k zVr=L[k]:=by simp[qZ4,hk]
  rw[n1,qAA,qEA,qBA (by omega),qBA (by omega)]
  simp only[qZ0]
  rw[qBA hk,hg]
  obtain ⟨m1,m2⟩:=hmem _ (List.getElem_mem hk)
  have hm:(L[k].1,s)∈VS:=by rw[<-m2];exact m1
  exact ⟨_,c',rfl,n2,(qYao hV hm).mono (by omega) (by omega)⟩
end Go.AM.Num
end
