/- Law ValueEval of the values: a machine of plain values, what the program's functions compute in it, and what that is. No condition beyond what the statement says. -/
import Derived.Test.YtmckcoeongfmhaaGreatDoorValueEval6
set_option linter.unusedSimpArgs false
set_option linter.unusedVariables false
section
namespace Go.AM.Num
abbrev nOp (n:Nod):Int:=n.1
abbrev qHG (n:Nod):Int:=n.2.1
abbrev qDP (n:Nod):qBs:=n.2.2.1
abbrev qAU (n:Nod):qBs:=n.2.2.2.1
abbrev qRF (n:Nod):Int:=n.2.2.2.2
def letterB (c:UInt8):Bool:=(decide (97<=c)&&decide (c<=122))||(decide (65<=c)&&decide (c<=90))||c==95||c==36||c==33
def qTl (c:UInt8):Bool:=letterB c||(decide (48<=c)&&decide (c<=57))||c==46||c==64
def qFl:List qBs:=[[97,110,100],[111,114],[110,111,116],[105,116,101],[116,114,117,101],[102,97,108,115,101],[108,101,116],[102,111,114,97,108,108],[101,120,105,115,116,115],
 [100,105,115,116,105,110,99,116],[100,105,118],[109,111,100],[115,101,108,101,99,116],[115,116,111,114,101],[99,111,110,115,116],[66,111,111,108],[73,110,116],[82,101,97,108],[65,114,114,97,121]]
def qKj (s:qBs):Bool:=decide (s.length<=40)&&letterB (s.getD 0 0)&&!(decide (s∈qFl))&&s.all qTl
noncomputable def qRC (n:Nod):Bool:=
 if nOp n=3 then decide (qDP n=[])&&((decide (qHG n=2)&&isI (qAU n))||(decide (qHG n=3)&&(rd (qAU n)).isSome))
 else if nOp n=4\/nOp n=5 then decide (1<=qHG n/\qHG n<=4)&&qKj (qDP n)&&decide (qAU n=[])
 else if nOp n=16\/nOp n=17 then decide (qHG n=0)&&decide (qDP n=[])&&isI (qAU n)&&decide (0 < qJT (qAU n))
 else decide (1<=nOp n/\nOp n<=20)&&decide (qHG n=0)&&decide (qDP n=[])&&decide (qAU n=[])
def qXA (o k:Int):Bool:=
 if o=1\/o=2\/o=3\/o=4 then decide (k=0)
 else if o=5 then decide (1<=k/\k<=40)
 else if o=6\/o=16\/o=17\/o=20 then decide (k=1)
 else if o=7\/o=8 then decide (0<=k)
 else if o=14 then decide (1<=k)
 else if o=10\/o=19 then decide (k=3)
 else decide (k=2)
theorem qIR {o k:Int} (h:qXA o k=true):0<=k:=by
 unfold qXA at h
 repeat' split at h
 all_goals (simp at h;omega)
noncomputable def okN (n:Nod):Bool:=qRC n&&qXA (nOp n) (qRF n)
def qCD (n:Nod) (first:Int) (ss:List Int):Int:=
 if nOp n=3\/nOp n=4\/nOp n=5 then qHG n
 else if nOp n=1\/nOp n=2\/nOp n=6\/nOp n=7\/nOp n=8\/nOp n=9 then (if ∀ s∈ss,s=1 then 1 else 0)
 else if nOp n=10 then (if ss.getD 0 0=1/\ss.getD 1 0=ss.getD 2 0 then ss.getD 1 0 else 0)
 else if nOp n=11 then (if ss.getD 0 0=ss.getD 1 0 then 1 else 0)
 else if nOp n=12\/nOp n=13 then (if (ss.getD 0 0=2\/ss.getD 0 0=3)/\∀ s∈ss,s=ss.getD 0 0 then 1 else 0)
 else if nOp n=14 then (if (ss.getD 0 0=2\/ss.getD 0 0=3)/\∀ s∈ss,s=ss.getD 0 0 then ss.getD 0 0 else 0)
 else if nOp n=15 then (if first=3/\(ss.getD 0 0=2\/ss.getD 0 0=3)/\∀ s∈ss,s=ss.getD 0 0 then ss.getD 0 0 else 0)
 else if nOp n=16\/nOp n=17 then (if ss.getD 0 0=2 then 2 else 0)
 else if nOp n=18 then (if ss.getD 0 0=4/\ss.getD 1 0=2 then 2 else 0)
 else if nOp n=19 then (if ss.getD 0 0=4/\ss.getD 1 0=2/\ss.getD 2 0=2 then 4 else 0)
 else if nOp n=20 then (if ss.getD 0 0=2 then 4 else 0)
 else 0
inductive Tf where
 |nil
 |cons (n:Nod) (k r:Tf)
namespace Tf
def flat:Tf->List Nod
 |nil=>[]
 |cons n k r=>n::(flat k++flat r)
def len:Tf->Nat
 |nil=>0
 |cons _ _ r=>len r+1
def size:Tf->Nat
 |nil=>0
 |cons _ k r=>size k+size r+1
def app:Tf->Tf->Tf
 |nil,g=>g
 |cons n k r,g=>cons n k (app r g)
def dep:Tf->Nat
 |nil=>0
 |cons _ k r=>max (dep k+1) (dep r)
def op1:Tf->Int
 |nil=>0
 |cons n _ _=>nOp n
def srt:Tf->List Int
 |nil=>[]
 |cons n k r=>(if 0∈srt k then 0 else qCD n (op1 k) (srt k))::srt r
noncomputable def wf:Tf->Bool
 |nil=>true
 |cons n k r=>okN n&&decide (qRF n=(len k:Int))&&wf k&&wf r
def take:Nat->Tf->Tf
 |0,_=>nil
 |_+1,nil=>nil
 |c+1,cons n k r=>cons n k (take c r)
def drop:Nat->Tf->Tf
 |0,f=>f
 |_+1,nil=>nil
 |c+1,cons _ _ r=>drop c r
theorem qNC (f:Tf):f.flat.length=f.size:=by
 induction f with
 |nil=>rfl
 |cons n k r ik ir=>simp only[flat,size,qY11,qZ6];omega
theorem qWV (f g:Tf):(f.app g).flat=f.flat++g.flat:=by
 induction f with
 |nil=>rfl
 |cons n k r _ ir=>simp only[app,flat,ir,qY5,qZ1]
theorem qIr (f g:Tf):(f.app g).len=f.len+g.len:=by
 induction f with
 |nil=>simp[app,len]
 |cons n k r _ ir=>simp only[app,len,ir];omega
theorem qJf (f g:Tf):(f.app g).size=f.size+g.size:=by
 induction f with
 |nil=>simp[app,size]
 |cons n k r _ ir=>simp only[app,size,ir];omega
theorem qIc (f g:Tf):(f.app g).srt=f.srt++g.srt:=by
 induction f with
 |nil=>rfl
 |cons n k r _ ir=>simp only[app,srt,ir,qY5]
theorem qKo (f g:Tf):(f.app g).wf=(f.wf&&g.wf):=by
 induction f with
 |nil=>simp[app,wf]
 |cons n k r _ ir=>simp only[app,wf,ir,Bool.and_assoc]
theorem qNv (f g:Tf):(f.app g).dep=max f.dep g.dep:=by
 induction f with
 |nil=>simp[app,dep]
 |cons n k r _ ir=>simp only[app,dep,ir];omega
theorem qBar (f:Tf):f.app nil=f:=by
 induction f with
 |nil=>rfl
 |cons n k r _ ir=>simp only[app,ir]
theorem qQM (f:Tf):f.srt.length=f.len:=by
 induction f with
 |nil=>rfl
 |cons n k r _ ir=>simp only[srt,len,qY11,ir]
theorem qPp:∀ (c:Nat) (f:Tf),(take c f).app (drop c f)=f:=by
 intro c
 induction c with
 |zero=>intro f;cases f<;>rfl
 |succ c ih=>
  intro f
  cases f with
  |nil=>rfl
  |cons n k r=>simp only[take,drop,app,ih]
theorem qAy:∀ (c:Nat) (f:Tf),c<=f.len->(take c f).len=c:=by
 intro c
 induction c with
 |zero=>intro f _;cases f<;>rfl
 |succ c ih=>
  intro f h
  cases f with
  |nil=>simp[len] at h
  |cons n k r=>simp only[len] at h;simp only[take,len,ih r (by omega)]
theorem qWaj (f g:Tf):take f.len (f.app g)=f:=by
 induction f with
 |nil=>cases g<;>rfl
 |cons n k r _ ir=>simp only[len,app,take,ir]
theorem qSam (f g:Tf):drop f.len (f.app g)=g:=by
 induction f with
 |nil=>cases g<;>rfl
 |cons n k r _ ir=>simp only[len,app,drop,ir]
theorem qWK (f:Tf):f.len<=f.size:=by
 induction f with
 |nil=>simp[len,size]
 |cons n k r _ ir=>simp only[len,size];omega
theorem qAx (f:Tf):f.dep<=f.size:=by
 induction f with
 |nil=>simp[dep,size]
 |cons n k r ik ir=>simp only[dep,size];omega
theorem qSH {n:Nod} {k r:Tf}:(cons n k r).wf=true ↔ okN n=true/\qRF n=(len k:Int)/\wf k=true/\wf r=true:=by
 simp only[wf,qY0,decide_eq_true_eq,and_assoc]
theorem qKJ {n:Nod} {k r:Tf}:(0:Int)∉(cons n k r).srt ↔ (0:Int)∉k.srt/\qCD n (op1 k) k.srt≠0/\(0:Int)∉r.srt:=by
 simp only[srt,qY12,not_or]
 constructor
 ·rintro ⟨h1,h2⟩
  split at h1
  ·exact absurd rfl h1
  ·rename_i h;exact ⟨h,fun e=>h1 e.symm,h2⟩
 ·rintro ⟨h1,h2,h3⟩
  rw[if_neg h1]
  exact ⟨fun e=>h2 e.symm,h3⟩
end Tf
open Tf
noncomputable def bkp:List Nod->Option Tf
 |[]=>some nil
 |n::l=>(bkp l).bind fun f=>if okN n=true/\qRF n<=(f.len:Int)/\(0:Int)≠qCD n (op1 (take (qRF n).toNat f)) (take (qRF n).toNat f).srt then some (cons n (take (qRF n).toNat f) (drop (qRF n).toNat f)) else none
theorem qWh:∀ {t:List Nod} {f:Tf},bkp t=some f->f.flat=t/\f.wf=true/\(0:Int)∉f.srt:=by
 intro t
 induction t with
 |nil=>intro f h;simp only[bkp,Option.some.injEq] at h;subst h;exact ⟨rfl,rfl,by simp[srt]⟩
 |cons n l ih=>
  intro f h
  simp only[bkp,Option.bind_eq_some_iff] at h
  obtain ⟨g,hg,h⟩:=h
  split at h
  ·rename_i hc
   obtain ⟨h1,h2,h3⟩:=hc
   obtain ⟨i1,i2,i3⟩:=ih hg
   simp only[Option.some.injEq] at h
   subst h
   have e:=qPp (qRF n).toNat g
   have hk:0<=qRF n:=by
    unfold okN at h1
    simp only[qY0] at h1
    exact qIR h1.2
   have hl:=qAy (qRF n).toNat g (by omega)
   rw[<-e,qKo,qY0] at i2
   rw[<-e,qIc,qZ7,not_or] at i3
   refine ⟨?_,qSH.2 ⟨h1,by rw[hl];omega,i2.1,i2.2⟩,qKJ.2 ⟨i3.1,fun e=>h3 e.symm,i3.2⟩⟩
   rw[<-i1]
   simp only[flat]
   rw[<-qWV,e]
  ·cases h
theorem qEaj:∀ (N:Nat) (f:Tf),f.size<=N->f.wf=true->(0:Int)∉f.srt->bkp f.flat=some f:=by
 intro N
 induction N with
 |zero=>intro f h _ _;cases f with
  |nil=>rfl
  |cons n k r=>simp[size] at h
 |succ N ih=>
  intro f h hw hs
  cases f with
  |nil=>rfl
  |cons n k r=>
   obtain ⟨h1,h2,h3,h4⟩:=qSH.1 hw
   obtain ⟨s1,s2,s3⟩:=qKJ.1 hs
   simp only[size] at h
   have:=ih (k.app r) (by rw[qJf];omega) (by rw[qKo,h3,h4];rfl) (by rw[qIc,qZ7];exact fun e=>e.elim s1 s3)
   rw[qWV] at this
   simp only[flat,bkp,this,Option.bind_some]
   have e:(qRF n).toNat=k.len:=by omega
   rw[e,qWaj,qSam,if_pos ⟨h1,by rw[qIr];omega,fun e=>s2 e.symm⟩]
theorem qBaq {t:List Nod} {f:Tf}:bkp t=some f ↔ f.flat=t/\f.wf=true/\(0:Int)∉f.srt:=
 ⟨qWh,fun ⟨h1,h2,h3⟩=>h1 ▸ qEaj _ f (Nat.le_refl _) h2 h3⟩
def many (p:List Nod->Option (Tf×List Nod)):Nat->List Nod->Option (Tf×List Nod)
 |0,l=>some (nil,l)
 |c+1,l=>(p l).bind fun x=>(many p c x.2).bind fun y=>some (x.1.app y.1,y.2)
noncomputable def one:Nat->List Nod->Option (Tf×List Nod)
 |0,_=>none
 |_+1,[]=>none
 |d+1,n::l=>if okN n=true then (many (one d) (qRF n).toNat l).bind fun x=>some (cons n x.1 nil,x.2) else none
theorem qTk {d:Nat} (ho:∀ {l l':List Nod} {f:Tf},one d l=some (f,l')->l=f.flat++l'/\f.wf=true/\f.len=1/\f.dep<=d) :
 ∀ (c:Nat) {l l':List Nod} {f:Tf},many (one d) c l=some (f,l')->l=f.flat++l'/\f.wf=true/\f.len=c/\f.dep<=d:=by
 intro c
 induction c with
 |zero=>intro l l' f h;simp only[many,Option.some.injEq,Prod.mk.injEq] at h;obtain ⟨rfl,rfl⟩:=h;exact ⟨rfl,rfl,rfl,Nat.zero_le _⟩
 |succ c ih=>
  intro l l' f h
  simp only[many,Option.bind_eq_some_iff] at h
  obtain ⟨⟨g,l1⟩,h1,⟨g2,l2⟩,h2,h3⟩:=h
  simp only[Option.some.injEq,Prod.mk.injEq] at h3
  obtain ⟨rfl,rfl⟩:=h3
  obtain ⟨e1,w1,n1,d1⟩:=ho h1
  obtain ⟨e2,w2,n2,d2⟩:=ih h2
  simp only at e2
  refine ⟨by rw[e1,e2,qWV,qZ1],by rw[qKo,w1,w2];rfl,by rw[qIr];omega,by rw[qNv];omega⟩
theorem qQY:∀ (d:Nat) {l l':List Nod} {f:Tf},one d l=some (f,l')->l=f.flat++l'/\f.wf=true/\f.len=1/\f.dep<=d:=by
 intro d
 induction d with
 |zero=>intro l l' f h;simp[one] at h
 |succ d ih=>
  intro l l' f h
  cases l with
  |nil=>simp[one] at h
  |cons n l=>
   simp only[one] at h
   split at h
   ·rename_i hn
    simp only[Option.bind_eq_some_iff] at h
    obtain ⟨⟨g,l1⟩,h1,h2⟩:=h
    simp only[Option.some.injEq,Prod.mk.injEq] at h2
    obtain ⟨rfl,rfl⟩:=h2
    obtain ⟨e1,w1,n1,d1⟩:=qTk ih _ h1
    have hk:0<=qRF n:=by
     unfold okN at hn
     simp only[qY0] at hn
     exact qIR hn.2
    refine ⟨by rw[e1];simp only[flat,qY4,qY5],qSH.2 ⟨hn,by omega,w1,rfl⟩,rfl,by simp only[dep];omega⟩
   ·cases h
theorem qWah (f:Tf):∀ (d:Nat) (l:List Nod),f.wf=true->f.dep<=d->many (one d) f.len (f.flat++l)=some (f,l):=by
 induction f with
 |nil=>intro d l _ _;rfl
 |cons n k r ik ir=>
  intro d l hw hd
  obtain ⟨h1,h2,h3,h4⟩:=qSH.1 hw
  simp only[dep] at hd
  obtain ⟨e,rfl⟩:∃ e,d=e+1:=⟨d - 1,by omega⟩
  have e1:=ik e (r.flat++l) h3 (by omega)
  have e2:=ir (e+1) l h4 (by omega)
  have ek:(qRF n).toNat=k.len:=by omega
  simp only[len,flat,many,qY5,one,qZ1]
  rw[if_pos h1,ek,e1]
  simp only[Option.bind_some]
  rw[e2]
  rfl
theorem qOv {f:Tf} {d:Nat} (l:List Nod) (hw:f.wf=true) (hl:f.len=1) (hd:f.dep<=d):one d (f.flat++l)=some (f,l):=by
 have:=qWah f d l hw hd
 rw[hl] at this
 simp only[many,Option.bind_eq_some_iff] at this
 obtain ⟨⟨g,l1⟩,h1,⟨g2,l2⟩,h2,h3⟩:=this
 simp only[Option.some.injEq,Prod.mk.injEq] at h2 h3
 obtain ⟨rfl,rfl⟩:=h2
 obtain ⟨rfl,rfl⟩:=h3
 rw[h1,qBar]
end Go.AM.Num
end
section
namespace Go.AM.Num
theorem qQV {P:UInt8->Prop} (h:∀ n:Fin 256,P (UInt8.ofNat n.val)) (c:UInt8):P c:=by
 have:=h ⟨c.toNat,c.toNat_lt⟩
 simpa using this
theorem qWf (c:UInt8):qXZ (c.toNat:Int)=some ((letterB c,()),()):=by
 refine qQV (P:=fun c=>qXZ (c.toNat:Int)=some ((letterB c,()),())) ?_ c
 decide +kernel
theorem qBaw (c:UInt8):decide ((c.toNat:Int)>=48)=decide (48<=c):=by
 refine qQV (P:=fun c=>decide ((c.toNat:Int)>=48)=decide (48<=c)) ?_ c
 decide +kernel
theorem qNav (c:UInt8):decide ((c.toNat:Int)<=57)=decide (c<=57):=by
 refine qQV (P:=fun c=>decide ((c.toNat:Int)<=57)=decide (c<=57)) ?_ c
 decide +kernel
theorem qIau (c:UInt8):((c.toNat:Int) !=46)=!(c==46):=by
 refine qQV (P:=fun c=>((c.toNat:Int) !=46)=!(c==46)) ?_ c
 decide +kernel
theorem qUat (c:UInt8):((c.toNat:Int) !=64)=!(c==64):=by
 refine qQV (P:=fun c=>((c.toNat:Int) !=64)=!(c==64)) ?_ c
 decide +kernel
theorem qWN {α:Type} (l:List α) (d:α) (p:α->Bool):(List.range l.length).all (fun k=>p (l.getD k d))=l.all p:=by
 rw[Bool.eq_iff_iff,qY3,qY3]
 constructor
 ·intro h x hx
  obtain ⟨i,hi⟩:=List.getElem?_of_mem hx
  have:=h i (by simp only[List.mem_range];exact (List.getElem?_eq_some_iff.1 hi).1)
  simpa [qZ4,hi] using this
 ·intro h k hk
  simp only[List.mem_range] at hk
  simpa [qZ4,hk] using h _ (List.getElem_mem hk)
theorem qPy (s:qBs) (l:List qBs):l.foldr (fun w k=>cond (s==w) (some ((true,()),())) k) (some ((false,()),()))=some ((decide (s∈l),()),()):=by
 induction l with
 |nil=>simp
 |cons w l ih=>
  simp only[List.foldr_cons,ih,qY12]
  by_cases h:s=w
  ·rw[show (s==w)=true by simpa using h];simp[h]
  ·rw[show (s==w)=false by simpa using h];simp[h]
theorem qNah (s:qBs):qCac s=some ((decide (s∈qFl),()),()):=by
 have:=qPy s qFl
 exact this
theorem qRah (s:qBs):(s==[])=decide (s=[]):=by
 cases s<;>simp
theorem qTr (s:qBs):qTY s=some ((qKj s,()),()):=by
 unfold qTY
 by_cases h0:s=[]
 ·subst h0;decide
 ·rw[show (s==([]:qBs))=false by simpa using h0,qWA]
  have hl:0 < s.length:=List.length_pos_iff.2 h0
  unfold qKj
  by_cases h1:s.length<=40
  ·rw[qNA (by omega),qZ10 h1,qEA,qBA (by omega),qBA (by omega),qWf,qAA,qNah,qAA]
   have e:(0:Int).toNat=0:=rfl
   rw[e]
   simp only
   cases letterB (s.getD 0 0) with
   |false=>rfl
   |true=>
    simp only[qY2,qWA,Bool.true_and]
    cases decide (s∈qFl) with
    |true=>rfl
    |false=>
     rw[qWA]
     have key:=qKI (step:=qLQ) (fun k=>(s,false,(s.length:Int),(k:Int),())) (fun k=>(s,false,(s.length:Int),(k:Int),())) s.length (E:=.exit 0) (B:=.ret) (by simp) (by simp) (fun k=>qTl (s.getD k 0)) (fun k hk=>by
      unfold qLQ
      simp only
      rw[qIA (by omega),qEA,qBA (by omega),qBA (by omega),qZ0,qWf,qAA,qBaw,qNav,qIau,qUat,w64 (x:=(k:Int)+1) (by omega)]
      unfold qTl
      generalize letterB (s.getD k 0)=a
      generalize decide (48<=s.getD k 0)=b
      generalize decide (s.getD k 0<=57)=c
      generalize (s.getD k 0==46)=d
      generalize (s.getD k 0==64)=e
      cases a<;>cases b<;>cases c<;>cases d<;>cases e<;>rfl) (by
      unfold qLQ
      simp only
      rw[qNA (by omega)])
     rw[qWN] at key
     rcases key with ⟨k1,k2⟩ | ⟨k1,j,k2⟩
     ·rw[show ((0:Nat):Int)=0 from rfl] at k2
      rw[k2,k1]
      simp only[qAA,qJB,qOA,qY1,Bool.true_and]
     ·rw[show ((0:Nat):Int)=0 from rfl] at k2
      rw[k2,k1]
      simp only[qAA,qLD,qID,qOA,qWA,Bool.and_false]
  ·rw[qIA (by omega),qZ9 h1]
   rfl
theorem qPf (s:Int):qAZ s=some ((decide (1<=s/\s<=4),()),()):=by
 unfold qAZ
 by_cases h:s>=1
 ·rw[qIA h]
  have:decide (s<=4)=decide (1<=s/\s<=4):=by rw[decide_eq_decide];omega
  rw[this]
 ·rw[qNA h,qZ9 (by omega)]
theorem qDo {s:Int} {a:qBs} (h:a.length<=1000000):qJW s a=some (((decide (s=2)&&isI a)||(decide (s=3)&&(rd a).isSome),()),()):=by
 unfold qJW
 rw[qET (by omega),qTn (by omega)]
 simp only[qAA]
 by_cases h2:s=2
 ·subst h2
  cases isI a<;>rfl
 ·rw[qDA h2,qZ9 h2,Bool.false_and,Bool.false_or]
  by_cases h3:s=3
  ·subst h3;rfl
  ·rw[qDA h3,qZ9 h3,Bool.false_and]
theorem qPu {n:Nod} (h:(qAU n).length<=1000000):qQe n=some ((qRC n,()),()):=by
 obtain ⟨o,s,nm,num,kd⟩:=n
 simp only[qAU] at h
 unfold qQe qRC
 simp only[nOp,qHG,qDP,qAU]
 rw[qDo h,qPf,qTr,qET (by omega),qCo (by omega)]
 simp only[qAA,qRah]
 by_cases e3:o=3
 ·rw[qFA e3,if_pos e3];cases decide (nm=[])<;>rfl
 ·rw[qDA e3,if_neg e3]
  by_cases e4:o=4
  ·rw[qFA e4,if_pos (.inl e4)];cases decide (1<=s/\s<=4)<;>cases qKj nm<;>rfl
  ·rw[qDA e4]
   by_cases e5:o=5
   ·rw[qFA e5,if_pos (.inr e5)];cases decide (1<=s/\s<=4)<;>cases qKj nm<;>rfl
   ·rw[qDA e5,if_neg (by omega)]
    by_cases e6:o=16
    ·rw[qFA e6,if_pos (.inl e6)]
     by_cases z:s=0
     ·rw[qFA z,qZ10 z];cases decide (nm=[])<;>cases isI num<;>rfl
     ·rw[qDA z,qZ9 z];rfl
    ·rw[qDA e6]
     by_cases e7:o=17
     ·rw[qFA e7,if_pos (.inr e7)]
      by_cases z:s=0
      ·rw[qFA z,qZ10 z];cases decide (nm=[])<;>cases isI num<;>rfl
      ·rw[qDA z,qZ9 z];rfl
     ·rw[qDA e7,if_neg (by omega)]
      by_cases g1:o>=1
      ·rw[qIA g1]
       by_cases g2:o<=20
       ·rw[qIA g2,qZ10 (show 1<=o/\o<=20 from ⟨g1,g2⟩)]
        by_cases z:s=0
        ·rw[qFA z,qZ10 z];cases decide (nm=[])<;>rfl
        ·rw[qDA z,qZ9 z];rfl
       ·rw[qNA g2,qZ9 (by omega)];rfl
      ·rw[qNA g1,qZ9 (by omega)];rfl
theorem qIz {o k:Int} (hk:0<=k):qVg o k=some ((qXA o k,()),()):=by
 by_cases h1:o=1;· subst h1;rfl
 by_cases h2:o=2;· subst h2;rfl
 by_cases h3:o=3;· subst h3;rfl
 by_cases h4:o=4;· subst h4;rfl
 by_cases h5:o=5
 ·subst h5
  have e:qXA 5 k=decide (1<=k/\k<=40):=rfl
  rw[e]
  unfold qVg
  rw[qDA (by decide),qDA (by decide),qDA (by decide),qDA (by decide),qFA rfl]
  by_cases g:k>=1
  ·rw[qIA g]
   have:decide (k<=40)=decide (1<=k/\k<=40):=by rw[decide_eq_decide];omega
   rw[this]
  ·rw[qNA g,qZ9 (by omega)]
 by_cases h6:o=6;· subst h6;rfl
 by_cases h16:o=16;· subst h16;rfl
 by_cases h17:o=17;· subst h17;rfl
 by_cases h20:o=20;· subst h20;rfl
 by_cases h7:o=7
 ·subst h7
  have e:qXA 7 k=decide (0<=k):=rfl
  rw[e,qZ10 hk];rfl
 by_cases h8:o=8
 ·subst h8
  have e:qXA 8 k=decide (0<=k):=rfl
  rw[e,qZ10 hk];rfl
 by_cases h14:o=14;· subst h14;rfl
 by_cases h10:o=10;· subst h10;rfl
 by_cases h19:o=19;· subst h19;rfl
 unfold qVg qXA
 rw[qDA h1,qDA h2,qDA h3,qDA h4,qDA h5,qDA h6,qDA h16,qDA h17,qDA h20,qDA h7,qDA h8,qDA h14,qDA h10,qDA h19,
  if_neg (by omega),if_neg h5,if_neg (by omega),if_neg (by omega),if_neg h14,if_neg (by omega)]
 rfl
theorem qSae (b:Bool) (s:Int):qMH b s=some ((if b=true then s else 0,()),()):=by cases b<;>rfl
theorem qCe (s:Int):qWP s=some ((decide (s=2\/s=3),()),()):=by
 unfold qWP
 by_cases h:s=2
 ·rw[qFA h,qZ10 (.inl h)]
 ·rw[qDA h]
  have:(s==3)=decide (s=2\/s=3):=by
   have e:(s==3)=decide (s=3):=rfl
   rw[e,decide_eq_decide];omega
  rw[this]
theorem qCx {ss:List Int} {s:Int} (hl:ss.length<=1000000000):qWZ ss s=some ((decide (∀ x∈ss,x=s),()),()):=by
 have key:=qKI (step:=qOB) (fun k=>(ss,some s,(0:Int),(ss.length:Int),(k:Int),())) (fun k=>(ss,some s,(k:Int),(ss.length:Int),(k:Int),())) ss.length (E:=.exit 0) (B:=.ret) (by simp) (by simp) (fun k=>decide (ss.getD k 0=s)) (fun k hk=>by
  unfold qOB
  simp only
  rw[qIA (by omega),qEA,qBA (by omega),qBA (by omega),qZ0]
  have e:qUt (ss.getD k 0) (some s)=some ((ss.getD k 0 !=s,()),()):=rfl
  rw[e,qAA,w64 (x:=(k:Int)+1) (by omega)]
  by_cases h:ss.getD k 0=s
  ·rw[qMD h,if_pos (qZ10 h)];rfl
  ·rw[qFE h,if_neg (fun e=>h (of_decide_eq_true e))]) (by
  unfold qOB
  simp only
  rw[qNA (by omega)])
 rw[qWN ss 0 (fun x=>decide (x=s))] at key
 rw[show ((0:Nat):Int)=0 from rfl] at key
 unfold qWZ qJD qQE
 rcases key with ⟨k1,k2⟩ | ⟨k1,j,k2⟩
 ·rw[k2]
  simp only[qAA,qJB,qOA]
  rw[show decide (∀ x∈ss,x=s)=true from qZ10 (by simpa [qY3] using k1)]
  rfl
 ·rw[k2]
  simp only[qAA,qLD,qID,qOA,qWA]
  rw[show decide (∀ x∈ss,x=s)=false from qZ9 (fun h=>by rw[List.all_eq_true.2 (fun x hx=>qZ10 (h x hx))] at k1;cases k1),qZ10 (show (j:Int)>=0 by omega)]
  rfl
theorem qXu {n:Nod} {ss:List Int} (ho:1<=nOp n/\nOp n<=20) (hl:ss.length<=1000000000) (hc:qXA (nOp n) ss.length=true):qCf n ss=some ((qCD n 3 ss,()),()):=by
 obtain ⟨o,s,nm,num,kd⟩:=n
 simp only[nOp] at ho hc
 unfold qCf qCD
 simp only[nOp,qHG,qCx hl,qCx (show (ss.drop 1).length<=1000000000 by simp;omega),qSae,qCe,qAA,decide_eq_true_eq,show (0:Int).toNat=0 from rfl,show (1:Int).toNat=1 from rfl,show (2:Int).toNat=2 from rfl]
 by_cases h3:o=3;· rw[qFA h3,if_pos (.inl h3)]
 rw[qDA h3]
 by_cases h4:o=4;· rw[qFA h4,if_pos (.inr (.inl h4))]
 rw[qDA h4]
 by_cases h5:o=5;· rw[qFA h5,if_pos (.inr (.inr h5))]
 rw[qDA h5,if_neg (show ¬ (o=3\/o=4\/o=5) by omega)]
 by_cases h1:o=1;· rw[qFA h1,if_pos (show o=1\/o=2\/o=6\/o=7\/o=8\/o=9 by omega)]
 rw[qDA h1]
 by_cases h2:o=2;· rw[qFA h2,if_pos (show o=1\/o=2\/o=6\/o=7\/o=8\/o=9 by omega)]
 rw[qDA h2]
 by_cases h6:o=6;· rw[qFA h6,if_pos (show o=1\/o=2\/o=6\/o=7\/o=8\/o=9 by omega)]
 rw[qDA h6]
 by_cases h7:o=7;· rw[qFA h7,if_pos (show o=1\/o=2\/o=6\/o=7\/o=8\/o=9 by omega)]
 rw[qDA h7]
 by_cases h8:o=8;· rw[qFA h8,if_pos (show o=1\/o=2\/o=6\/o=7\/o=8\/o=9 by omega)]
 rw[qDA h8]
 by_cases h9:o=9;· rw[qFA h9,if_pos (show o=1\/o=2\/o=6\/o=7\/o=8\/o=9 by omega)]
 rw[qDA h9,if_neg (show ¬ (o=1\/o=2\/o=6\/o=7\/o=8\/o=9) by omega)]
 by_cases h10:o=10
 ·subst h10
  rcases ss with _ | ⟨a,_ | ⟨b,_ | ⟨c,_ | ⟨d,l⟩⟩⟩⟩<;>simp[qXA] at hc
  ·by_cases q:a=1
   ·simp[grd,q]
   ·simp[grd,q,show (a==1)=false by simpa using q]
  ·omega
 rw[qDA h10,if_neg h10]
 by_cases h11:o=11
 ·subst h11
  rcases ss with _ | ⟨a,_ | ⟨b,_ | ⟨c,l⟩⟩⟩<;>simp[qXA] at hc
  ·simp[grd]
  ·omega
 rw[qDA h11,if_neg h11]
 by_cases h12:o=12
 ·subst h12
  rcases ss with _ | ⟨a,_ | ⟨b,_ | ⟨c,l⟩⟩⟩<;>simp[qXA] at hc
  ·by_cases q:a=2\/a=3<;>simp[grd,q]
  ·omega
 rw[qDA h12]
 by_cases h13:o=13
 ·subst h13
  rcases ss with _ | ⟨a,_ | ⟨b,_ | ⟨c,l⟩⟩⟩<;>simp[qXA] at hc
  ·by_cases q:a=2\/a=3<;>simp[grd,q]
  ·omega
 rw[qDA h13,if_neg (show ¬ (o=12\/o=13) by omega)]
 by_cases h14:o=14
 ·subst h14
  rcases ss with _ | ⟨a,l⟩<;>simp[qXA] at hc
  by_cases q:a=2\/a=3<;>simp[grd,q]
 rw[qDA h14,if_neg h14]
 by_cases h15:o=15
 ·subst h15
  rcases ss with _ | ⟨a,_ | ⟨b,_ | ⟨c,l⟩⟩⟩<;>simp[qXA] at hc
  ·by_cases q:a=2\/a=3<;>simp[grd,q]
  ·omega
 rw[qDA h15,if_neg h15]
 by_cases h16:o=16
 ·subst h16
  rcases ss with _ | ⟨a,_ | ⟨b,l⟩⟩<;>simp[qXA] at hc
  ·simp[grd]
  ·omega
 rw[qDA h16]
 by_cases h17:o=17
 ·subst h17
  rcases ss with _ | ⟨a,_ | ⟨b,l⟩⟩<;>simp[qXA] at hc
  ·simp[grd]
  ·omega
 rw[qDA h17,if_neg (show ¬ (o=16\/o=17) by omega)]
 by_cases h18:o=18
 ·subst h18
  rcases ss with _ | ⟨a,_ | ⟨b,_ | ⟨c,l⟩⟩⟩<;>simp[qXA] at hc
  ·by_cases q:a=4
   ·simp[grd,q]
   ·simp[grd,q,show (a==4)=false by simpa using q]
  ·omega
 rw[qDA h18,if_neg h18]
 by_cases h19:o=19
 ·subst h19
  rcases ss with _ | ⟨a,_ | ⟨b,_ | ⟨c,_ | ⟨d,l⟩⟩⟩⟩<;>simp[qXA] at hc
  ·by_cases q:a=4
   ·simp[grd,q]
   ·simp[grd,q,show (a==4)=false by simpa using q]
  ·omega
 rw[qDA h19,if_neg h19]
 obtain rfl:o=20:=by omega
 rcases ss with _ | ⟨a,_ | ⟨b,l⟩⟩<;>simp[qXA] at hc
 ·simp[grd]
 ·omega
namespace Tf
def info:Nat->Tf->List (Int×Int×Int)
 |_,nil=>[]
 |p,cons n k r=>((if 0∈srt k then 0 else qCD n (op1 k) (srt k)),((dep k+1:Nat):Int),((p+1+size k:Nat):Int))::(info (p+1) k++info (p+1+size k) r)
def rts:Nat->Tf->List Int
 |_,nil=>[]
 |p,cons _ k r=>rts (p+1+size k) r++[(p:Int)]
def rtf:Nat->Tf->List Int
 |_,nil=>[]
 |p,cons _ k r=>(p:Int)::rtf (p+1+size k) r
theorem qUK (f:Tf):∀ p,(info p f).length=f.size:=by
 induction f with
 |nil=>intro p;rfl
 |cons n k r ik ir=>intro p;simp only[info,size,qY11,qZ6,ik,ir]
theorem qDx (f g:Tf):∀ p,info p (f.app g)=info p f++info (p+f.size) g:=by
 induction f with
 |nil=>intro p;simp[app,info,size]
 |cons n k r _ ir=>
  intro p
  have e:p+1+size k+size r=p+(size k+size r+1):=by omega
  simp only[app,info,size,ir,qY5,qZ1,e]
theorem qQap (f g:Tf):∀ p,rts p (f.app g)=rts (p+f.size) g++rts p f:=by
 induction f with
 |nil=>intro p;simp[app,rts,size]
 |cons n k r _ ir=>
  intro p
  have e:p+1+size k+size r=p+(size k+size r+1):=by omega
  simp only[app,rts,size,ir,qZ1,e]
theorem qWU (f:Tf):∀ p,(rts p f).length=f.len:=by
 induction f with
 |nil=>intro p;rfl
 |cons n k r _ ir=>intro p;simp[rts,len,ir]
theorem qFap (f:Tf):∀ p,(rts p f).reverse=rtf p f:=by
 induction f with
 |nil=>intro p;rfl
 |cons n k r _ ir=>intro p;simp[rts,rtf,ir]
end Tf
open Tf
theorem qPai {α β γ:Type} (f:β->γ->Option γ) (g:α->β):∀ (l:List α) (y:γ),foldO (fun a y=>f (g a) y) l y=foldO f (l.map g) y:=by
 intro l
 induction l with
 |nil=>intro y;rfl
 |cons a l ih=>intro y;simp only[foldO,List.map_cons];congr 1;funext z;exact ih z
theorem qTag {β:Type} (f:Int->β->Option β) (l:List Int) (y:β):foldO (fun (p:Int×Nat) y=>f p.1 y) l.zipIdx.reverse y=foldO f l.reverse y:=by
 rw[qPai f (fun p:Int×Nat=>p.1),List.map_reverse]
 congr 2
 exact List.zipIdx_map_fst 0 l
theorem qKK {α:Type} {l r:List α} {p:Nat} {x d:α} (h:l.drop p=x::r):l.getD p d=x/\p < l.length:=by
 have h0:(l.drop p)[0]?=some x:=by rw[h];rfl
 rw[List.getElem?_drop] at h0
 have e:p+0=p:=by omega
 rw[e] at h0
 exact ⟨by rw[qZ4,h0];rfl,(List.getElem?_eq_some_iff.1 h0).1⟩
abbrev LkS:=((List Nod)×List (Int×Sml))×(Int×Sml)×(List Int)×Unit
def lkG (v:Int) (y:LkS):Option LkS:=(qQP v 0 y).bind fun o=>some (qOL y o)
theorem qVae (t:List Nod) (P:List (Int×Sml)) (hP:P.length<=20000):∀ (k:Tf) (p:Nat) (s0:Int) (d0:Nat) (ss:List Int),(∃ rest,P.drop p=info p k++rest)->1<=d0->d0<=100000->ss.length+k.len<=100000->
 foldO lkG (rtf p k) ((t,P),(s0,(d0:Int),(p:Int)),ss,())=some ((t,P),(s0,((max d0 (k.dep+1):Nat):Int),((p+k.size:Nat):Int)),ss++k.srt,()):=by
 intro k
 induction k with
 |nil=>
  intro p s0 d0 ss _ h1 _ _
  have e:max d0 (dep nil+1)=d0:=by simp only[dep];omega
  simp only[rtf,foldO,srt,qY4,size,Nat.add_zero,e]
 |cons n k r ik ir=>
  intro p s0 d0 ss ⟨rest,hr⟩ h1 h2 h3
  simp only[info,qY5] at hr
  obtain ⟨g1,g2⟩:=qKK (d:=((0:Int),(0:Int),(0:Int))) hr
  have hz:size k+size r+1<=P.length:=by
   have:=congrArg List.length hr
   simp only[List.length_drop,qY11,qZ6,qUK] at this
   omega
  have hdk:=qAx k
  have hdr:=qAx r
  have hlr:=qWK r
  simp only[len] at h3
  simp only[rtf,foldO]
  have hstep:lkG (p:Int) ((t,P),(s0,(d0:Int),(p:Int)),ss,())=some ((t,P),(s0,((max d0 (k.dep+2):Nat):Int),((p+1+size k:Nat):Int)),ss++[if 0∈srt k then 0 else qCD n (op1 k) (srt k)],()):=by
   unfold lkG qQP qOL
   simp only
   rw[qZ0,g1]
   rw[qEA,qBA (by omega),qBA (by omega),qBA g2,qBA (by simp[qCF];omega),qEA,qBA (by omega),qBA (by omega),qBA g2,qEA,qBA (by omega),qBA (by omega),qBA g2,qAA]
   rw[w64 (x:=((dep k+1:Nat):Int)+1) (by omega)]
   have:qJc (d0:Int) (((dep k+1:Nat):Int)+1)=((max d0 (k.dep+2):Nat):Int):=by rw[qUe];split<;>omega
   rw[this]
  rw[hstep,Option.bind_some]
  rw[ir (p+1+size k) s0 (max d0 (k.dep+2)) _ ⟨rest,by
   have:=congrArg (List.drop (1+size k)) hr
   rw[List.drop_drop] at this
   have e:p+(1+size k)=p+1+size k:=by omega
   rw[e] at this
   rw[this,Nat.add_comm 1,List.drop_succ_cons,qZ1,List.drop_append_of_le_length (by rw[qUK];omega)]
   have:(info (p+1) k).drop (size k)=[]:=qY7 (by rw[qUK];omega)
   rw[this,qY15]⟩ (by omega) (by omega) (by simp;omega)]
  have e1:max (max d0 (k.dep+2)) (r.dep+1)=max d0 ((cons n k r).dep+1):=by simp only[dep];omega
  have e2:p+1+size k+size r=p+(cons n k r).size:=by simp only[size];omega
  rw[e1,e2]
  simp only[srt,qZ1,qY5,qY15]
theorem qIs (n:Nod) (f:Int) (ss:List Int):qCD n f ss=if nOp n=15/\f≠3 then 0 else qCD n 3 ss:=by
 unfold qCD
 by_cases h:nOp n=15
 ·by_cases hf:f=3
  ·simp[h,hf]
  ·simp[h,hf]
 ·simp[h]
theorem qNaa:∀ (i:Nat) {t:List Nod} {f:Tf},bkp t=some f->∃ g,bkp (t.drop i)=some g:=by
 intro i
 induction i with
 |zero=>intro t f h;exact ⟨f,by simpa using h⟩
 |succ i ih=>
  intro t f h
  cases t with
  |nil=>exact ⟨nil,by simp[bkp]⟩
  |cons n l=>
   simp only[bkp,Option.bind_eq_some_iff] at h
   obtain ⟨g,hg,_⟩:=h
   simpa using ih hg
def qAS (t:List Nod):Prop:=∀ n∈t,(qAU n).length<=100000
theorem qBag {t:List Nod} (hs:qAS t) (hl:t.length<=20000) {i:Nat} (hi:i < t.length) {F:Tf} {P:List (Int×Sml)} (hF:bkp (t.drop (i+1))=some F) (hP:P.length=t.length) (hPi:P.drop (i+1)=info (i+1) F) :
 (bkp (t.drop i)=none/\∃ v,qON (t,(none:Option qRR),false,(t,P),rts (i+1) F,(i:Int),())=some (.ret,(t,(none:Option qRR),false,v,rts (i+1) F,(i:Int),())))\/
 ∃ G P',bkp (t.drop i)=some G/\P'.length=t.length/\P'.drop i=info i G/\qON (t,(none:Option qRR),false,(t,P),rts (i+1) F,(i:Int),())=some (.normal,(t,(none:Option qRR),false,(t,P'),rts i G,(i:Int) - 1,())):=by
 obtain ⟨hf1,hf2,hf3⟩:=qWh hF
 have hsz:F.size=t.length - (i+1):=by rw[<-qNC,hf1,List.length_drop]
 have hfl:=qWK F
 have hget:t.getD i qHF=t[i]:=by simp[qZ4,hi]
 have hmem:t[i]∈t:=List.getElem_mem hi
 have hbp:bkp (t.drop i)=if okN t[i]=true/\qRF t[i]<=(F.len:Int)/\(0:Int)≠qCD t[i] (op1 (take (qRF t[i]).toNat F)) (take (qRF t[i]).toNat F).srt then some (cons t[i] (take (qRF t[i]).toNat F) (drop (qRF t[i]).toNat F)) else none:=by
  rw[qY6 hi]
  simp only[bkp,hF,Option.bind_some]
 have hnum:=hs _ hmem
 have hfe:=qPu (n:=t[i]) (by omega)
 unfold qON
 simp only
 rw[qIA (by omega),qEA,qBA (by omega),qBA (by omega),qZ0,hget]
 generalize hn:t[i]=n at hbp hnum hfe ⊢
 have hK:n.2.2.2.2=qRF n:=rfl
 have hO:n.1=nOp n:=rfl
 rw[hK,hO,qWU]
 by_cases q1:qRF n < 0
 ·rw[qIA q1]
  refine .inl ⟨?_,_,rfl⟩
  rw[hbp,if_neg]
  rintro ⟨h,_⟩
  unfold okN at h
  simp only[qY0] at h
  have:=qIR h.2
  omega
 rw[qNA q1]
 by_cases q2:qRF n > (F.len:Int)
 ·rw[qIA q2]
  exact .inl ⟨by rw[hbp,if_neg (by omega)],_,rfl⟩
 rw[qNA q2,hfe,qAA]
 by_cases q3:qRC n=false
 ·rw[q3]
  refine .inl ⟨?_,_,rfl⟩
  rw[hbp,if_neg]
  rintro ⟨h,_⟩
  unfold okN at h
  rw[q3] at h
  cases h
 rw[Bool.not_eq_false] at q3
 rw[q3]
 simp only[qY2,qWA]
 rw[qIz (by omega),qAA]
 by_cases q4:qXA (nOp n) (qRF n)=false
 ·rw[q4]
  refine .inl ⟨?_,_,rfl⟩
  rw[hbp,if_neg]
  rintro ⟨h,_⟩
  unfold okN at h
  rw[q4,Bool.and_false] at h
  cases h
 rw[Bool.not_eq_false] at q4
 rw[q4]
 simp only[qY2,qWA]
 have hok:okN n=true:=by unfold okN;rw[q3,q4];rfl
 obtain ⟨c,hc⟩:∃ c:Nat,qRF n=(c:Int):=⟨(qRF n).toNat,by omega⟩
 have hct:(qRF n).toNat=c:=by omega
 rw[hct] at hbp
 have hFe:=qPp c F
 have hkl:=qAy c F (by omega)
 generalize hk:take c F=k at hbp hFe hkl
 generalize hr:drop c F=r at hbp hFe
 have hlen:F.len=k.len+r.len:=by rw[<-hFe,qIr]
 have hsize:F.size=k.size+r.size:=by rw[<-hFe,qJf]
 have hrl:r.len=F.len - c:=by omega
 have hR:rts (i+1) F=rts (i+1+k.size) r++rts (i+1) k:=by rw[<-hFe,qQap]
 have hw:qI ((F.len:Int) - qRF n)=(r.len:Int):=by rw[w64 (by omega)];omega
 have hRd:(rts (i+1) F).drop r.len=rts (i+1) k:=by
  rw[hR,List.drop_append_of_le_length (by rw[qWU];omega),qY7 (by rw[qWU];omega),qY15]
 have hRt:(rts (i+1) F).take r.len=rts (i+1+k.size) r:=by
  rw[hR,List.take_append_of_le_length (by rw[qWU];omega),List.take_of_length_le (by rw[qWU];omega)]
 have hRdt:((rts (i+1) F).drop r.len).take (F.len - r.len)=rts (i+1) k:=by
  rw[hRd,List.take_of_length_le (by rw[qWU];omega)]
 have hfold:=qVae t P (by omega) k (i+1) 0 1 [] ⟨info (i+1+k.size) r,by rw[hPi,<-hFe,qDx]⟩ (by omega) (by omega) (by simp;omega)
 rw[hw,qZ0,hRdt]
 rw[qEA,qBA (by omega),qBA (by omega),qBA (by rw[qWU];simp only[qCF];omega)]
 have hidx:foldO (fun (p:Int×Nat) y=>(qQP p.1 p.2 y).bind fun o=>some (qOL y o)) (rts (i+1) k).zipIdx.reverse ((t,P),((0:Int),1,qI ((i:Int)+1)),([]:List Int),())=foldO lkG (rtf (i+1) k) ((t,P),((0:Int),((1:Nat):Int),((i+1:Nat):Int)),([]:List Int),()):=by
  rw[<-qFap,<-qTag lkG]
  rw[w64 (by omega)]
  rfl
 rw[hidx,hfold,qAA,qAA]
 unfold qMR
 simp only[qY15]
 have hss:k.srt.length=c:=by rw[qQM];exact hkl
 have hop:1<=nOp n/\nOp n<=20:=by
  unfold qRC at q3
  split at q3
  ·omega
  ·split at q3
   ·omega
   ·split at q3
    ·omega
    ·simp only[qY0,decide_eq_true_eq] at q3
     exact q3.1.1.1
 rw[qXu hop (by omega) (by rw[hss,<-hc];exact q4),qAA]
 have hfirst:=qIs n (op1 k) k.srt
 by_cases q5:qCD n 3 k.srt=0
 ·rw[qFA q5]
  refine .inl ⟨?_,_,rfl⟩
  rw[hbp,if_neg]
  rintro ⟨_,_,h⟩
  rw[hfirst,q5] at h
  split at h<;>exact h rfl
 rw[qDA q5]
 have hwi:qI ((i:Int)+1)=((i+1:Nat):Int):=by rw[w64 (by omega)];omega
 have hwm:qI ((i:Int) - 1)=(i:Int) - 1:=w64 (by omega)
 have hgood:∀ (hx:¬ (nOp n=15/\op1 k≠3)),bkp (t.drop i)=some (cons n k r)/\(P.set i (qCD n 3 k.srt,((max 1 (k.dep+1):Nat):Int),((i+1+k.size:Nat):Int))).drop i=info i (cons n k r):=by
  intro hx
  rw[if_neg hx] at hfirst
  refine ⟨by rw[hbp,if_pos ⟨hok,by omega,by rw[hfirst];exact fun e=>q5 e.symm⟩],?_⟩
  have h0:(0:Int)∉k.srt:=fun h=>hf3 (by rw[<-hFe,qIc,qZ7];exact .inl h)
  rw[qY6 (by simp;omega)]
  simp only[info]
  rw[if_neg h0,hfirst,List.getElem_set_self,List.drop_set_of_lt (by omega),hPi,<-hFe,qDx]
  have e:max 1 (k.dep+1)=k.dep+1:=by omega
  rw[e]
 have hlt:P.length=t.length:=hP
 by_cases q6:nOp n=15
 ·rw[qFA q6,hwi,qEA,qBA (by omega)]
  have hk2:0 < k.len:=by
   have:qXA 15 (qRF n)=decide (qRF n=2):=rfl
   rw[q6,this,decide_eq_true_eq] at q4
   omega
  have hkne:∃ n1 k1 r1,k=cons n1 k1 r1:=by
   cases k with
   |nil=>simp[len] at hk2
   |cons n1 k1 r1=>exact ⟨n1,k1,r1,rfl⟩
  obtain ⟨n1,k1,r1,hke⟩:=hkne
  have hd:t.drop (i+1)=n1::(k1.flat++r1.flat++r.flat):=by
   rw[<-hf1,<-hFe,hke]
   simp only[app,flat,qWV,qZ1]
  obtain ⟨g1,g2⟩:=qKK (d:=qHF) hd
  have ho1:op1 k=n1.1:=by rw[hke];rfl
  rw[qBA (by omega),qZ0,g1]
  by_cases q7:n1.1=3
  ·rw[qMD q7]
   obtain ⟨b1,b2⟩:=hgood (fun h=>h.2 (by rw[ho1];exact q7))
   refine .inr ⟨_,_,b1,by simp[hP],b2,?_⟩
   rw[qEA,qBA (by omega),qBA (by omega),qBA (by omega),qEA,qBA (by omega),qBA (by omega),qBA (by simp[qCF];omega),hRt,hwm]
   rfl
  ·rw[qFE q7]
   refine .inl ⟨?_,_,rfl⟩
   rw[hbp,if_neg]
   rintro ⟨_,_,h⟩
   rw[hfirst,if_pos ⟨q6,by rw[ho1];exact q7⟩] at h
   exact h rfl
 ·rw[qDA q6]
  obtain ⟨b1,b2⟩:=hgood (fun h=>q6 h.1)
  refine .inr ⟨_,_,b1,by simp[hP],b2,?_⟩
  rw[qEA,qBA (by omega),qBA (by omega),qBA (by omega),qEA,qBA (by omega),qBA (by omega),qBA (by simp[qCF];omega),hRt,hwm]
  rfl
theorem qZag {t:List Nod} (hs:qAS t) (hl:t.length<=20000):∀ (j:Nat),j<=t.length->∀ (F:Tf) (P:List (Int×Sml)),bkp (t.drop j)=some F->P.length=t.length->P.drop j=info j F->
 (bkp t=none/\∃ v,qPA qON (t,(none:Option qRR),false,(t,P),rts j F,(j:Int) - 1,())=some (.ret,(t,(none:Option qRR),false,v)))\/
 ∃ G,bkp t=some G/\qPA qON (t,(none:Option qRR),false,(t,P),rts j F,(j:Int) - 1,())=some (.exit 0,(t,(none:Option qRR),false,(t,info 0 G),rts 0 G,-1,())):=by
 intro j
 induction j with
 |zero=>
  intro _ F P hF hP hPi
  refine .inr ⟨F,by simpa using hF,qTA ?_ (by simp)⟩
  unfold qON
  simp only
  rw[qNA (by omega)]
  have e:P=info 0 F:=by simpa using hPi
  rw[e]
  rfl
 |succ j ih=>
  intro hj F P hF hP hPi
  have e:(((j+1:Nat):Int) - 1)=(j:Int):=by omega
  rw[e]
  rcases qBag hs hl (i:=j) (by omega) hF hP hPi with ⟨h1,v,h2⟩ | ⟨G,P',h1,h2,h3,h4⟩
  ·refine .inl ⟨?_,_,qTA h2 (by simp)⟩
   cases hb:bkp t with
   |none=>rfl
   |some f=>
    obtain ⟨g,hg⟩:=qNaa j hb
    rw[h1] at hg;cases hg
  ·rw[qAB h4]
   exact ih (by omega) G P' h1 h2 h3
theorem qAai {t:List Nod} (hs:qAS t) (hl:t.length<=20000):qWx t=some ((match bkp t with | none=>(none,false,()) | some F=>(some (t,info 0 F),decide (F.len=1),())),()):=by
 unfold qWx
 have h:=qZag hs hl t.length (Nat.le_refl _) nil (List.replicate t.length ((0:Int),(0:Int),(0:Int))) (by simp[bkp]) (by simp) (by simp[info])
 rw[qEA,qEA,qBA (by omega),qBA (by omega),qBA (by simp only[qCF];omega),qZ0,w64 (by omega)]
 simp only[rts] at h
 rcases h with ⟨h1,v,h2⟩ | ⟨G,h1,h2⟩
 ·rw[h2,h1]
  simp only[qAA,qLD,qID,qOA,qWA]
 ·rw[h2,h1]
  simp only[qAA,qJB,qOA,qWU]
  have e:((G.len:Int)==1)=decide (G.len=1):=by
   have e:((G.len:Int)==1)=decide ((G.len:Int)=1):=rfl
   rw[e,decide_eq_decide];omega
  rw[e]
end Go.AM.Num
end
section
namespace Go.AM.Num
theorem qCM {α:Type} (s:qBs) (x:α):∀ l,qPD s (qDc s x l)=some x:=by
 intro l
 induction l with
 |nil=>simp[qDc,qPD]
 |cons a l ih=>
  obtain ⟨k,y⟩:=a
  simp only[qDc]
  by_cases h:k=s
  ·rw[show (k==s)=true by simpa using h];simp[qPD,h]
  ·have hk:(k==s)=false:=by simpa using h
   rw[hk];simp[qPD,hk,ih]
theorem qRQ {α:Type} {s t:qBs} (h:t≠s) (x:α):∀ l,qPD t (qDc s x l)=qPD t l:=by
 intro l
 have h2:(s==t)=false:=by simpa using fun e=>h e.symm
 induction l with
 |nil=>simp[qDc,qPD,h2]
 |cons a l ih=>
  obtain ⟨k,y⟩:=a
  simp only[qDc]
  by_cases hk:k=s
  ·subst hk;simp[qPD,h2]
  ·rw[show (k==s)=false by simpa using hk]
   simp only[qWA,qPD,ih]
namespace Tf
def subs:Tf->List (Nod×Tf)
 |nil=>[]
 |cons n k r=>(n,k)::(subs k++subs r)
theorem qGZ (f:Tf):f.subs.length=f.size:=by
 induction f with
 |nil=>rfl
 |cons n k r ik ir=>simp only[subs,size,qY11,qZ6,ik,ir]
theorem qBao (f:Tf):∀ (o p:Nat),p < f.size->∃ n k x rest rest2,f.subs[p]?=some (n,k)/\f.flat.drop p=n::(k.flat++rest)/\(info o f).drop p=x::(info (o+p+1) k++rest2):=by
 induction f with
 |nil=>intro o p h;simp[size] at h
 |cons n k r ik ir=>
  intro o p h
  cases p with
  |zero=>exact ⟨n,k,((if 0∈srt k then 0 else qCD n (op1 k) (srt k)),((dep k+1:Nat):Int),((o+1+size k:Nat):Int)),flat r,info (o+1+size k) r,rfl,rfl,rfl⟩
  |succ p=>
   simp only[size] at h
   by_cases hp:p < k.size
   ·obtain ⟨n',k',x,rest,rest2,h1,h2,h3⟩:=ik (o+1) p hp
    refine ⟨n',k',x,rest++r.flat,rest2++info (o+1+k.size) r,?_,?_,?_⟩
    ·simp only[subs,List.getElem?_cons_succ]
     rw[qY8 (by rw[qGZ];exact hp)]
     exact h1
    ·simp only[flat,List.drop_succ_cons]
     rw[List.drop_append_of_le_length (by rw[qNC];omega),h2]
     simp
    ·simp only[info,List.drop_succ_cons]
     rw[List.drop_append_of_le_length (by rw[qUK];omega),h3]
     have e:o+1+p+1=o+(p+1)+1:=by omega
     simp[e]
   ·obtain ⟨n',k',x,rest,rest2,h1,h2,h3⟩:=ir (o+1+k.size) (p - k.size) (by omega)
    refine ⟨n',k',x,rest,rest2,?_,?_,?_⟩
    ·simp only[subs,List.getElem?_cons_succ]
     rw[qY9 (by rw[qGZ];omega),qGZ]
     exact h1
    ·simp only[flat,List.drop_succ_cons]
     rw[List.drop_append,qNC,qY7 (by rw[qNC];omega),h2]
     rfl
    ·simp only[info,List.drop_succ_cons]
     rw[List.drop_append,qUK,qY7 (by rw[qUK];omega),h3]
     have e:o+1+k.size+(p - k.size)+1=o+(p+1)+1:=by omega
     simp[e]
theorem qFan {f:Tf} (hw:f.wf=true) (hs:(0:Int)∉f.srt):∀ {n:Nod} {k:Tf},(n,k)∈f.subs->okN n=true/\qRF n=(k.len:Int)/\k.wf=true/\(0:Int)∉k.srt:=by
 induction f with
 |nil=>intro n k h;simp[subs] at h
 |cons m a b ia ib=>
  intro n k h
  obtain ⟨h1,h2,h3,h4⟩:=qSH.1 hw
  obtain ⟨s1,s2,s3⟩:=qKJ.1 hs
  simp only[subs,qY12,qZ7,Prod.mk.injEq] at h
  rcases h with ⟨rfl,rfl⟩ | h | h
  ·exact ⟨h1,h2,h3,s1⟩
  ·exact ia h3 s1 h
  ·exact ib h4 s3 h
theorem qVe {f:Tf}:∀ {n:Nod} {k:Tf},(n,k)∈f.subs->k.size < f.size:=by
 induction f with
 |nil=>intro n k h;simp[subs] at h
 |cons m a b ia ib=>
  intro n k h
  simp only[subs,qY12,qZ7,Prod.mk.injEq] at h
  simp only[size]
  rcases h with ⟨rfl,rfl⟩ | h | h
  ·omega
  ·have:=ia h;omega
  ·have:=ib h;omega
end Tf
open Tf
theorem qBae (t:List Nod) (P:List (Int×Sml)) (hP:P.length<=20000):∀ (k:Tf) (p:Nat) (out:List Int) (idx:Nat) (K:Int),(∃ rest,P.drop p=info p k++rest)->((idx+k.len:Nat):Int)=K->out.length+k.len<=100000->idx+k.len<=100000->
 qPA qQK (some (t,P),out,(p:Int),K,(idx:Int),())=some (.exit 0,(some (t,P),out++rtf p k,((p+k.size:Nat):Int),K,K,())):=by
 intro k
 induction k with
 |nil=>
  intro p out idx K _ h1 _ _
  simp only[len,Nat.add_zero] at h1
  subst h1
  refine qTA ?_ (by simp)
  unfold qQK
  simp only
  rw[qNA (by omega)]
  simp[rtf,size]
 |cons n k r ik ir=>
  intro p out idx K ⟨rest,hr⟩ h1 h2 h3
  simp only[info,qY5] at hr
  obtain ⟨g1,g2⟩:=qKK (d:=((0:Int),(0:Int),(0:Int))) hr
  simp only[len] at h1 h2 h3
  have hr':P.drop (p+1+size k)=info (p+1+size k) r++rest:=by
   have:=congrArg (List.drop (1+size k)) hr
   rw[List.drop_drop] at this
   have e:p+(1+size k)=p+1+size k:=by omega
   rw[e] at this
   rw[this,Nat.add_comm 1,List.drop_succ_cons,qZ1,List.drop_append_of_le_length (by rw[qUK];omega)]
   have:(info (p+1) k).drop (size k)=[]:=qY7 (by rw[qUK];omega)
   rw[this,qY15]
  rw[qAB (y:=(some (t,P),out++[(p:Int)],((p+1+size k:Nat):Int),K,((idx+1:Nat):Int),())) (by
   unfold qQK
   simp only[Option.isSome_some,Option.getD_some]
   rw[qIA (by omega),qZ0,g1]
   rw[qBA (by simp[qCF];omega),qSU,qEA,qBA (by omega),qBA (by omega),w64 (x:=(idx:Int)+1) (by omega)]
   rfl)]
  rw[ir (p+1+size k) _ (idx+1) K ⟨rest,hr'⟩ (by omega) (by simp;omega) (by omega)]
  have e2:p+1+size k+size r=p+(cons n k r).size:=by simp only[size];omega
  rw[e2]
  simp only[rtf,qZ1,qY5,qY15]
theorem qUao {t:List Nod} {P:List (Int×Sml)} (hP:P.length<=20000) {p:Nat} {n:Nod} {k:Tf} {rest:List (Int×Sml)} (hp:p < t.length) (ht:t.getD p qHF=n) (hn:qRF n=(k.len:Int)) (hd:P.drop (p+1)=info (p+1) k++rest) (hk:k.size<=20000) (hpl:p<=20000) :
 qTQ (some (t,P)) (p:Int)=some ((rtf (p+1) k,()),()):=by
 have hkl:=qWK k
 unfold qTQ
 simp only[Option.isSome_some,Option.getD_some]
 rw[qSU,qEA,qBA (by omega),qBA (by omega),qZ0,ht,w64 (by omega)]
 have hK:n.2.2.2.2=(k.len:Int):=hn
 have:=qBae t P hP k (p+1) [] 0 (k.len:Int) ⟨rest,hd⟩ (by simp) (by simp;omega) (by omega)
 rw[hK]
 have e:((p+1:Nat):Int)=(p:Int)+1:=by omega
 rw[e] at this
 rw[show ((0:Nat):Int)=0 from rfl] at this
 rw[this]
 simp only[qAA,qJB,qOA,qY15]
theorem qSak (t:List Nod) (P:List (Int×Sml)) (hP:P.length<=20000) (t4:qBs×qCA) (nm:qBs) (s:Int):∀ (k:Tf) (p:Nat) (args pre:List Int),(∃ rest,P.drop p=info p k++rest)->args.length+k.len<=100000->pre.length+k.len<=100000->
 qPA t_view_signature_s3 (some (t,P),t4,(nm,args,s),pre++rtf p k,((pre++rtf p k).length:Int),(pre.length:Int),())=some (.exit 0,(some (t,P),t4,(nm,args++k.srt,s),pre++rtf p k,((pre++rtf p k).length:Int),((pre++rtf p k).length:Int),())):=by
 intro k
 induction k with
 |nil=>
  intro p args pre _ _ _
  refine qTA ?_ (by simp)
  unfold t_view_signature_s3
  simp only[rtf,qY4]
  rw[qNA (by omega)]
  simp[srt]
 |cons n k r ik ir=>
  intro p args pre ⟨rest,hr⟩ h2 h3
  simp only[info,qY5] at hr
  obtain ⟨g1,g2⟩:=qKK (d:=((0:Int),(0:Int),(0:Int))) hr
  simp only[len] at h2 h3
  have hr':P.drop (p+1+size k)=info (p+1+size k) r++rest:=by
   have:=congrArg (List.drop (1+size k)) hr
   rw[List.drop_drop] at this
   have e:p+(1+size k)=p+1+size k:=by omega
   rw[e] at this
   rw[this,Nat.add_comm 1,List.drop_succ_cons,qZ1,List.drop_append_of_le_length (by rw[qUK];omega)]
   have:(info (p+1) k).drop (size k)=[]:=qY7 (by rw[qUK];omega)
   rw[this,qY15]
  have ih:=ir (p+1+size k) (args++[if 0∈srt k then 0 else qCD n (op1 k) (srt k)]) (pre++[(p:Int)]) ⟨rest,hr'⟩ (by simp;omega) (by simp;omega)
  simp only[qZ1,qY5,qY15] at ih
  simp only[rtf,srt]
  rw[qAB (y:=(some (t,P),t4,(nm,args++[if 0∈srt k then 0 else qCD n (op1 k) (srt k)],s),pre++(p:Int)::rtf (p+1+size k) r,((pre++(p:Int)::rtf (p+1+size k) r).length:Int),((pre.length+1:Nat):Int),())) (by
   unfold t_view_signature_s3
   have e:(pre++(p:Int)::rtf (p+1+size k) r).getD pre.length 0=(p:Int):=by simp[qZ4]
   simp only[Option.isSome_some,Option.getD_some]
   rw[qIA (by simp;omega),qEA,qBA (by omega),qBA (by simp;omega),qSU,qZ0,e,qEA,qBA (by omega),qBA (by omega),qZ0,g1,qBA (by simp[qCF];omega),w64 (x:=(pre.length:Int)+1) (by omega)]
   rfl)]
  have e2:(pre++[(p:Int)]).length=pre.length+1:=by simp
  rw[e2] at ih
  rw[ih]
theorem qUau {t:List Nod} {P:List (Int×Sml)} (hP:P.length<=20000) {p:Nat} {n:Nod} {k:Tf} {rest:List (Int×Sml)} (hp:p < t.length) (ht:t.getD p qHF=n) (hn:qRF n=(k.len:Int)) (hd:P.drop (p+1)=info (p+1) k++rest) (hk:k.size<=20000) (hpl:p<=20000) :
 qVK (some (t,P)) (p:Int)=some (((qDP n,k.srt,qHG n),()),()):=by
 have hkl:=qWK k
 unfold qVK
 simp only[Option.isSome_some,Option.getD_some]
 rw[qSU,qEA,qBA (by omega),qBA (by omega),qSU,qEA,qBA (by omega),qBA (by omega),qZ0,ht,qUao hP hp ht hn hd hk hpl,qAA]
 have:=qSak t P hP (([]:qBs),([]:List Int),(0:Int)) n.2.2.1 n.2.1 k (p+1) [] [] ⟨rest,hd⟩ (by simp;omega) (by simp;omega)
 simp only[qY15,List.length_nil] at this
 rw[show ((0:Nat):Int)=0 from rfl] at this
 rw[this]
 simp only[qAA,qJB,qOA]
abbrev Us:=qBs×Bool×List Int×Int
def qLT (x:Nod×Tf):Option Us:=if nOp x.1=4 then some (qDP x.1,false,[],qHG x.1) else if nOp x.1=5 then some (qDP x.1,true,x.2.srt,qHG x.1) else none
def qHr (f:Tf):List Us:=f.subs.filterMap qLT
def Cns (us:List Us):Prop:=∀ a∈us,∀ b∈us,a.1=b.1->a=b
theorem Cns.mono {us vs:List Us} (h:Cns vs) (hs:∀ a∈us,a∈vs):Cns us:=fun a ha b hb e=>h a (hs a ha) b (hs b hb) e
structure NI (us:List Us) (vars:List (qBs×Vr)) (funcs:List (qBs×qBs×qCA)):Prop where
 cns:Cns us
 w:∀ a∈us,(a.2.1=false/\a.2.2.1=[])\/a.2.1=true
 v:∀ nm x,qPD nm vars=some x->x.1=nm/\(nm,false,[],x.2)∈us
 v':∀ nm s,(nm,false,[],s)∈us->(qPD nm vars).isSome=true
 f:∀ nm x,qPD nm funcs=some x->x.1=nm/\(nm,true,x.2.1,x.2.2)∈us
 f':∀ nm a s,(nm,true,a,s)∈us->(qPD nm funcs).isSome=true
theorem NI.nil:NI [] [] []:=⟨fun a h=>absurd h qY16,fun a h=>absurd h qY16,fun nm x h=>(by simp[qPD] at h),fun nm s h=>absurd h qY16,fun nm x h=>(by simp[qPD] at h),fun nm a s h=>absurd h qY16⟩
theorem NI.fresh {us:List Us} {vars:List (qBs×Vr)} {funcs:List (qBs×qBs×qCA)} (h:NI us vars funcs) {nm:qBs} (h1:qPD nm vars=none) (h2:qPD nm funcs=none):∀ a∈us,a.1≠nm:=by
 rintro ⟨m,b,l,s⟩ ha e
 simp only at e
 subst e
 rcases h.w _ ha with ⟨e1,e2⟩ | e1
 ·simp only at e1 e2;subst e1;subst e2
  have:=h.v' _ _ ha
  rw[h1] at this;cases this
 ·simp only at e1;subst e1
  have:=h.f' _ _ _ ha
  rw[h2] at this;cases this
theorem qGm {us:List Us} {u:Us} (h:Cns us) (hu:∀ a∈us,a.1=u.1->a=u):Cns (us++[u]):=by
 intro a ha b hb e
 rcases List.mem_append.1 ha with ha1 | ha1
 ·rcases List.mem_append.1 hb with hb1 | hb1
  ·exact h a ha1 b hb1 e
  ·rw[qZ8] at hb1
   rw[hb1] at e ⊢
   exact hu a ha1 e
 ·rw[qZ8] at ha1
  rw[ha1] at e ⊢
  rcases List.mem_append.1 hb with hb1 | hb1
  ·exact (hu b hb1 e.symm).symm
  ·rw[qZ8] at hb1;exact hb1.symm
theorem NI.addV {us:List Us} {vars:List (qBs×Vr)} {funcs:List (qBs×qBs×qCA)} (h:NI us vars funcs) {nm:qBs} {s:Int} (h1:qPD nm vars=none) (h2:qPD nm funcs=none):NI (us++[(nm,false,[],s)]) (qDc nm (nm,s) vars) funcs:=by
 have hf:=h.fresh h1 h2
 refine ⟨qGm h.cns fun a ha e=>absurd e (hf a ha),fun a ha=>?_,fun m x hx=>?_,fun m x hx=>?_,fun m x hx=>?_,fun m a x hx=>?_⟩
 ·rcases List.mem_append.1 ha with ha | ha
  ·exact h.w a ha
  ·rw[qZ8] at ha;subst ha;exact .inl ⟨rfl,rfl⟩
 ·by_cases e:m=nm
  ·subst e;rw[qCM] at hx;cases hx;exact ⟨rfl,by simp⟩
  ·rw[qRQ e] at hx
   obtain ⟨a1,a2⟩:=h.v m x hx
   exact ⟨a1,List.mem_append_left _ a2⟩
 ·by_cases e:m=nm
  ·subst e;rw[qCM];rfl
  ·rw[qRQ e]
   rcases List.mem_append.1 hx with hx | hx
   ·exact h.v' m x hx
   ·rw[qZ8] at hx;cases hx;exact absurd rfl e
 ·obtain ⟨a1,a2⟩:=h.f m x hx
  exact ⟨a1,List.mem_append_left _ a2⟩
 ·rcases List.mem_append.1 hx with hx | hx
  ·exact h.f' m a x hx
  ·rw[qZ8] at hx;cases hx
theorem NI.addF {us:List Us} {vars:List (qBs×Vr)} {funcs:List (qBs×qBs×qCA)} (h:NI us vars funcs) {nm:qBs} {l:List Int} {s:Int} (h1:qPD nm vars=none) (h2:qPD nm funcs=none):NI (us++[(nm,true,l,s)]) vars (qDc nm (nm,l,s) funcs):=by
 have hf:=h.fresh h1 h2
 refine ⟨qGm h.cns fun a ha e=>absurd e (hf a ha),fun a ha=>?_,fun m x hx=>?_,fun m x hx=>?_,fun m x hx=>?_,fun m a x hx=>?_⟩
 ·rcases List.mem_append.1 ha with ha | ha
  ·exact h.w a ha
  ·rw[qZ8] at ha;subst ha;exact .inr rfl
 ·obtain ⟨a1,a2⟩:=h.v m x hx
  exact ⟨a1,List.mem_append_left _ a2⟩
 ·rcases List.mem_append.1 hx with hx | hx
  ·exact h.v' m x hx
  ·rw[qZ8] at hx;cases hx
 ·by_cases e:m=nm
  ·subst e;rw[qCM] at hx;cases hx;exact ⟨rfl,by simp⟩
  ·rw[qRQ e] at hx
   obtain ⟨a1,a2⟩:=h.f m x hx
   exact ⟨a1,List.mem_append_left _ a2⟩
 ·by_cases e:m=nm
  ·subst e;rw[qCM];rfl
  ·rw[qRQ e]
   rcases List.mem_append.1 hx with hx | hx
   ·exact h.f' m a x hx
   ·rw[qZ8] at hx;cases hx;exact absurd rfl e
theorem NI.again {us:List Us} {vars:List (qBs×Vr)} {funcs:List (qBs×qBs×qCA)} (h:NI us vars funcs) {u:Us} (hu:u∈us):NI (us++[u]) vars funcs:=by
 have hm:∀ a,a∈us++[u] ↔ a∈us:=fun a=>by
  rw[qZ7,qZ8]
  exact ⟨fun h=>h.elim id fun e=>e ▸ hu,.inl⟩
 exact ⟨qGm h.cns fun a ha e=>h.cns a ha u hu e,fun a ha=>h.w a ((hm a).1 ha),fun m x hx=>⟨(h.v m x hx).1,(hm _).2 (h.v m x hx).2⟩,fun m s hx=>h.v' m s ((hm _).1 hx),fun m x hx=>⟨(h.f m x hx).1,(hm _).2 (h.f m x hx).2⟩,fun m a s hx=>h.f' m a s ((hm _).1 hx)⟩
end Go.AM.Num
end
section
namespace Go.AM.Num
open Tf
theorem qWaf {a b:List Int} (ha:a.length<=2000000000):qAH a b=some ((decide (a=b),()),()):=by
 unfold qAH
 by_cases hl:a.length=b.length
 ·rw[qMD (by omega)]
  have:=qKI (step:=qGE) (fun k=>(a,b,false,(a.length:Int),(k:Int),())) (fun k=>(a,b,false,(a.length:Int),(k:Int),())) a.length (E:=.exit 0) (B:=.ret) (by simp) (by simp) (fun k=>decide (a.getD k 0=b.getD k 0)) (fun k hk=>by
   unfold qGE
   simp only
   rw[qIA (by omega),qEA,qBA (by omega),qBA (by omega),qEA,qBA (by omega),qBA (by omega),qZ0,w64 (by omega)]
   by_cases h:a.getD k 0=b.getD k 0
   ·rw[qMD h,if_pos (qZ10 h)];rfl
   ·rw[qFE h,if_neg (fun e=>h (of_decide_eq_true e))]) (by
   unfold qGE
   simp only
   rw[qNA (by omega)])
  rw[show ((0:Nat):Int)=0 from rfl] at this
  have heq:(List.range a.length).all (fun k=>decide (a.getD k 0=b.getD k 0))=decide (a=b):=by
   rw[Bool.eq_iff_iff,qY3,decide_eq_true_eq]
   constructor
   ·intro h
    refine List.ext_getElem hl fun k h1 h2=>?_
    have:=h k (List.mem_range.2 h1)
    simpa [qZ4,h1,h2] using this
   ·rintro rfl k _;simp
  rcases this with ⟨h1,h2⟩ | ⟨h1,k,h2⟩
  ·rw[h2,<-heq,h1];simp only[qAA,qJB,qOA]
  ·rw[h2,<-heq,h1];simp only[qAA,qLD,qID,qOA,qWA]
 ·rw[qFE (by omega),qZ9 (fun e=>hl (by rw[e]))]
theorem qRq {f g:qBs×qCA} (h:f.2.1.length<=2000000000):qLp f g=some ((decide (f=g),()),()):=by
 obtain ⟨a,l,s⟩:=f
 obtain ⟨b,m,u⟩:=g
 simp only at h
 unfold qLp
 simp only[qWaf h,qAA]
 by_cases h1:a=b
 ·rw[show (a==b)=true by simpa using h1,qOA]
  by_cases h2:s=u
  ·rw[qFA h2];simp[h1,h2]
  ·rw[qDA h2,qZ9 (fun e=>h2 (by cases e;rfl))]
 ·rw[show (a==b)=false by simpa using h1,qWA,qZ9 (fun e=>h1 (by cases e;rfl))]
section
variable {F:Tf} {t:List Nod} {P:List (Int×Sml)}
abbrev qXU (F:Tf) (p:Nat):List Us:=(F.subs.take p).filterMap qLT
theorem qEa {p:Nat}:∀ a∈qXU F p,a∈qHr F:=by
 intro a ha
 simp only[qXU,qHr,List.mem_filterMap] at ha ⊢
 obtain ⟨x,h1,h2⟩:=ha
 exact ⟨x,List.mem_of_mem_take h1,h2⟩
theorem qHk {p:Nat} {n:Nod} {k:Tf} (h:F.subs[p]?=some (n,k)):qXU F (p+1)=qXU F p++(qLT (n,k)).toList:=by
 simp only[qXU,List.take_add_one,h,Option.toList_some,List.filterMap_append]
 cases hu:qLT (n,k)<;>simp[hu]
theorem qIy (hF:F.flat=t) (hw:F.wf=true) (hs:(0:Int)∉F.srt) (hz:F.size<=20000) (hP:P=info 0 F) {p:Nat} (hp:p < F.size) {vars:List (qBs×Vr)} {funcs:List (qBs×qBs×qCA)} {l0:List Vr} {m0:List (qBs×qCA)}
 (hI:NI (qXU F p) vars funcs) (hl:l0.length<=p) (hm:m0.length<=p) :
 (¬ Cns (qXU F (p+1))/\∃ x,qIF (some (t,P),([]:List Vr),([]:List (qBs×qCA)),false,vars,funcs,l0,m0,t,(t.length:Int),(p:Int),())=some (.ret,(some (t,P),([]:List Vr),([]:List (qBs×qCA)),false,x)))\/
 ∃ vars' funcs' l' m',NI (qXU F (p+1)) vars' funcs'/\l'.length<=p+1/\m'.length<=p+1/\qIF (some (t,P),([]:List Vr),([]:List (qBs×qCA)),false,vars,funcs,l0,m0,t,(t.length:Int),(p:Int),())=some (.normal,(some (t,P),([]:List Vr),([]:List (qBs×qCA)),false,vars',funcs',l',m',t,(t.length:Int),((p+1:Nat):Int),())):=by
 obtain ⟨n,k,x,rest,rest2,h1,h2,h3⟩:=qBao F 0 p hp
 obtain ⟨g1,g2⟩:=qKK (d:=qHF) h2
 have hmem:(n,k)∈F.subs:=qY14 h1
 obtain ⟨w1,w2,w3,w4⟩:=qFan hw hs hmem
 have hks:=qVe hmem
 have htl:t.length=F.size:=by rw[<-hF,qNC]
 have hPl:P.length=F.size:=by rw[hP,qUK]
 rw[hF] at g1
 have hd:P.drop (p+1)=info (p+1) k++rest2:=by
  have:=congrArg (List.drop 1) h3
  rw[List.drop_drop] at this
  rw[hP]
  simpa using this
 have hwp:qI ((p:Int)+1)=((p+1:Nat):Int):=by rw[w64 (by omega)];rfl
 have hT:=qHk h1
 unfold qIF
 simp only
 rw[qIA (by omega),qEA,qBA (by omega),qBA (by omega),qZ0,g1,hwp]
 by_cases e4:n.1=4
 ·have hu:qLT (n,k)=some (n.2.2.1,false,[],n.2.1):=by unfold qLT;rw[if_pos e4]
  rw[hu] at hT
  rw[qFA e4]
  cases hv:qPD n.2.2.1 vars with
  |none=>
   simp only[Option.isSome_none,qY1,qOA]
   rw[qBA (by simp[qCF];omega)]
   cases hf:qPD n.2.2.1 funcs with
   |none=>
    simp only[Option.isSome_none,qWA]
    rw[qMD rfl]
    exact .inr ⟨_,_,_,_,by rw[hT];exact hI.addV hv hf,by simp;omega,by omega,rfl⟩
   |some g=>
    simp only[Option.isSome_some,qOA]
    refine .inl ⟨fun hc=>?_,_,rfl⟩
    obtain ⟨a1,a2⟩:=hI.f _ _ hf
    rw[hT] at hc
    have:=hc _ (List.mem_append_left _ a2) (n.2.2.1,false,[],n.2.1) (by simp) rfl
    simp at this
  |some y=>
   simp only[Option.isSome_some,qY2,qWA,Option.getD_some]
   obtain ⟨b1,b2⟩:=hI.v _ _ hv
   cases hf:qPD n.2.2.1 funcs with
   |none=>
    simp only[Option.isSome_none,qWA]
    by_cases q:y.2=n.2.1
    ·rw[qMD q]
     rw[q] at b2
     exact .inr ⟨_,_,_,_,by rw[hT];exact hI.again b2,by omega,by omega,rfl⟩
    ·rw[qFE q]
     refine .inl ⟨fun hc=>?_,_,rfl⟩
     rw[hT] at hc
     have:=hc _ (List.mem_append_left _ b2) (n.2.2.1,false,[],n.2.1) (by simp) rfl
     simp at this
     exact q this
   |some g=>
    simp only[Option.isSome_some,qOA]
    refine .inl ⟨fun hc=>?_,_,rfl⟩
    obtain ⟨a1,a2⟩:=hI.f _ _ hf
    rw[hT] at hc
    have:=hc _ (List.mem_append_left _ a2) (n.2.2.1,false,[],n.2.1) (by simp) rfl
    simp at this
 ·rw[qDA e4]
  by_cases e5:n.1=5
  ·have hu:qLT (n,k)=some (n.2.2.1,true,k.srt,n.2.1):=by unfold qLT;rw[if_neg e4,if_pos e5]
   rw[hu] at hT
   rw[qFA e5,qUau (by omega) (by omega) g1 w2 hd (by omega) (by omega),qAA]
   have hkl:k.srt.length<=2000000000:=by rw[qQM];have:=qWK k;omega
   simp only
   cases hf:qPD n.2.2.1 funcs with
   |none=>
    simp only[Option.isSome_none,qY1,qOA]
    rw[qBA (by simp[qCF];omega)]
    cases hv:qPD n.2.2.1 vars with
    |none=>
     simp only[Option.isSome_none,qWA]
     rw[qRq hkl,qAA,qZ10 rfl]
     simp only[qY2,qWA]
     exact .inr ⟨_,_,_,_,by rw[hT];exact hI.addF hv hf,by omega,by simp;omega,rfl⟩
    |some y=>
     simp only[Option.isSome_some,qOA]
     refine .inl ⟨fun hc=>?_,_,rfl⟩
     obtain ⟨a1,a2⟩:=hI.v _ _ hv
     rw[hT] at hc
     have:=hc _ (List.mem_append_left _ a2) (n.2.2.1,true,k.srt,n.2.1) (by simp) rfl
     simp at this
   |some g=>
    simp only[Option.isSome_some,qY2,qWA,Option.getD_some]
    obtain ⟨b1,b2⟩:=hI.f _ _ hf
    cases hv:qPD n.2.2.1 vars with
    |none=>
     simp only[Option.isSome_none,qWA]
     obtain ⟨gn,gl,gs⟩:=g
     simp only at b1 b2
     have hgl:gl.length<=2000000000:=by
      obtain ⟨⟨n',k'⟩,m1,m2⟩:=List.mem_filterMap.1 (qEa _ b2)
      unfold qLT at m2
      split at m2
      ·simp at m2
      ·split at m2
       ·simp only[Option.some.injEq,Prod.mk.injEq] at m2
        rw[<-m2.2.2.1,qQM]
        have:=qVe m1;have:=qWK k';omega
       ·cases m2
     rw[qRq hgl,qAA]
     by_cases q:(gn,gl,gs)=(qDP n,k.srt,qHG n)
     ·rw[qZ10 q]
      simp only[qY2,qWA]
      simp only[Prod.mk.injEq] at q
      rw[q.2.1,q.2.2] at b2
      exact .inr ⟨_,_,_,_,by rw[hT];exact hI.again b2,by omega,by omega,rfl⟩
     ·rw[qZ9 q]
      simp only[qY1,qOA]
      refine .inl ⟨fun hc=>?_,_,rfl⟩
      rw[hT] at hc
      have:=hc _ (List.mem_append_left _ b2) (n.2.2.1,true,k.srt,n.2.1) (by simp) rfl
      simp only[Prod.mk.injEq,true_and] at this
      exact q (by rw[b1,this.1,this.2])
    |some y=>
     simp only[Option.isSome_some,qOA]
     refine .inl ⟨fun hc=>?_,_,rfl⟩
     obtain ⟨a1,a2⟩:=hI.v _ _ hv
     rw[hT] at hc
     have:=hc _ (List.mem_append_left _ a2) (n.2.2.1,true,k.srt,n.2.1) (by simp) rfl
     simp at this
  ·have hu:qLT (n,k)=none:=by unfold qLT;rw[if_neg e4,if_neg e5]
   rw[hu] at hT
   rw[qDA e5]
   exact .inr ⟨_,_,_,_,by rw[hT];simpa using hI,by omega,by omega,rfl⟩
theorem qQz (hF:F.flat=t) (hw:F.wf=true) (hs:(0:Int)∉F.srt) (hz:F.size<=20000) (hP:P=info 0 F):∀ (m p:Nat) (vars:List (qBs×Vr)) (funcs:List (qBs×qBs×qCA)) (l0:List Vr) (m0:List (qBs×qCA)),p+m=F.size->
 NI (qXU F p) vars funcs->l0.length<=p->m0.length<=p->
 (¬ Cns (qHr F)/\∃ x,qPA qIF (some (t,P),([]:List Vr),([]:List (qBs×qCA)),false,vars,funcs,l0,m0,t,(t.length:Int),(p:Int),())=some (.ret,(some (t,P),([]:List Vr),([]:List (qBs×qCA)),false,x)))\/
 (Cns (qHr F)/\∃ x,qPA qIF (some (t,P),([]:List Vr),([]:List (qBs×qCA)),false,vars,funcs,l0,m0,t,(t.length:Int),(p:Int),())=some (.exit 0,(some (t,P),([]:List Vr),([]:List (qBs×qCA)),false,x))):=by
 have htl:t.length=F.size:=by rw[<-hF,qNC]
 intro m
 induction m with
 |zero=>
  intro p vars funcs l0 m0 hp hI _ _
  refine .inr ⟨?_,_,qTA (by unfold qIF;simp only;rw[qNA (by omega)]) (by simp)⟩
  have e:qXU F p=qHr F:=by unfold qXU qHr;rw[List.take_of_length_le (by rw[qGZ];omega)]
  rw[<-e];exact hI.cns
 |succ m ih=>
  intro p vars funcs l0 m0 hp hI hl hm
  rcases qIy hF hw hs hz hP (p:=p) (by omega) hI hl hm with ⟨h1,x,h2⟩ | ⟨vars',funcs',l',m',h1,h2,h3,h4⟩
  ·exact .inl ⟨fun hc=>h1 (hc.mono qEa),x,qTA h2 (by simp)⟩
  ·rw[qAB h4]
   exact ih (p+1) vars' funcs' l' m' (by omega) h1 h2 h3
theorem qMy (hF:F.flat=t) (hw:F.wf=true) (hs:(0:Int)∉F.srt) (hz:F.size<=20000):(Cns (qHr F)/\∃ l m,qSN (some (t,info 0 F))=some ((l,m,true,()),()))\/(¬ Cns (qHr F)/\qSN (some (t,info 0 F))=some (([],[],false,()),())):=by
 unfold qSN
 simp only[Option.isSome_some,Option.getD_some]
 rw[qSU]
 rcases qQz hF hw hs hz rfl F.size 0 [] [] [] [] (by omega) NI.nil (by simp) (by simp) with ⟨h1,x,h2⟩ | ⟨h1,x,h2⟩
 ·rw[show ((0:Nat):Int)=0 from rfl] at h2
  rw[h2]
  simp only[qAA,qLD,qID,qOA,qWA]
  exact .inr ⟨h1,by first | rfl | trivial⟩
 ·rw[show ((0:Nat):Int)=0 from rfl] at h2
  rw[h2]
  simp only[qAA,qJB,qOA]
  exact .inl ⟨h1,_,_,rfl⟩
end
structure VT (t:List Nod) (F:Tf):Prop where
 flat:F.flat=t
 wf:F.wf=true
 srt:(0:Int)∉F.srt
 len:F.len=1
 size:F.size<=20000
 dep:F.dep<=257
 cns:Cns (qHr F)
theorem VT.one {t:List Nod} {F:Tf} (h:VT t F):∃ n k,F=cons n k nil:=by
 have:=h.len
 cases F with
 |nil=>simp[Tf.len] at this
 |cons n k r=>
  cases r with
  |nil=>exact ⟨n,k,rfl⟩
  |cons a b c=>simp only[Tf.len] at this;omega
theorem VT.bkp {t:List Nod} {F:Tf} (h:VT t F):bkp t=some F:=qBaq.2 ⟨h.flat,h.wf,h.srt⟩
theorem VT.uniq {t:List Nod} {F G:Tf} (h:VT t F) (g:VT t G):F=G:=by
 have:=h.bkp;rw[g.bkp] at this;exact (Option.some.inj this).symm
theorem qHy {t:List Nod} (hs:qAS t):(∃ F,VT t F/\qUc t=some ((some (t,info 0 F),true,()),()))\/((¬ ∃ F,VT t F)/\qUc t=some ((none,false,()),())):=by
 unfold qUc
 by_cases h0:t.length=0
 ·rw[qFA (by omega)]
  refine .inr ⟨fun ⟨F,hF⟩=>?_,rfl⟩
  obtain ⟨n,k,e⟩:=hF.one
  have:=hF.flat
  rw[e] at this
  rw[<-this] at h0
  simp[Tf.flat] at h0
 rw[qDA (by omega)]
 by_cases h1:t.length > 20000
 ·rw[qIA (by omega)]
  refine .inr ⟨fun ⟨F,hF⟩=>?_,rfl⟩
  have:=hF.size
  have h2:=qNC F
  rw[hF.flat] at h2
  omega
 rw[qNA (by omega),qAai hs (by omega),qAA]
 cases hb:bkp t with
 |none=>exact .inr ⟨fun ⟨F,hF⟩=>(by rw[hF.bkp] at hb;cases hb),rfl⟩
 |some F=>
  obtain ⟨f1,f2,f3⟩:=qWh hb
  have hz:F.size<=20000:=by rw[<-qNC,f1];omega
  simp only
  by_cases hl:F.len=1
  ·rw[qZ10 hl]
   simp only[qY2,qWA]
   obtain ⟨n,k,e⟩:∃ n k,F=cons n k nil:=by
    cases F with
    |nil=>simp[Tf.len] at hl
    |cons n k r=>
     cases r with
     |nil=>exact ⟨n,k,rfl⟩
     |cons a b c=>simp only[Tf.len] at hl;omega
   have hlarge:qER (some (t,info 0 F))=some ((decide (F.dep > 257),()),()):=by
    unfold qER
    simp only[Option.isSome_some,Option.getD_some]
    rw[qSU,qNA (by omega),qSU,e]
    have hd:(cons n k nil).dep=k.dep+1:=by simp only[Tf.dep];omega
    have hg:((info 0 (cons n k nil)).getD (0:Int).toNat ((0:Int),(0:Int),(0:Int))).2.1=((k.dep+1:Nat):Int):=rfl
    rw[qEA,qBA (by omega),qBA (by rw[qUK];simp only[Tf.size];omega),hd]
    have e2:decide (((info 0 (cons n k nil)).getD (0:Int).toNat ((0:Int),(0:Int),(0:Int))).2.1 > 257)=decide (k.dep+1 > 257):=by rw[decide_eq_decide,hg];omega
    rw[e2]
   rw[hlarge,qAA]
   by_cases hd:F.dep > 257
   ·rw[qZ10 hd]
    refine .inr ⟨fun ⟨G,hG⟩=>?_,rfl⟩
    have:=hG.bkp
    rw[hb] at this
    cases this
    exact absurd hG.dep (by omega)
   rw[qZ9 hd]
   simp only[qWA]
   rcases qMy f1 f2 f3 hz with ⟨c1,l,m,c2⟩ | ⟨c1,c2⟩
   ·rw[c2,qAA]
    exact .inl ⟨F,⟨f1,f2,f3,hl,hz,by omega,c1⟩,rfl⟩
   ·rw[c2,qAA]
    refine .inr ⟨fun ⟨G,hG⟩=>?_,rfl⟩
    have:=hG.bkp
    rw[hb] at this
    cases this
    exact c1 hG.cns
  ·rw[qZ9 hl]
   refine .inr ⟨fun ⟨G,hG⟩=>?_,rfl⟩
   have:=hG.bkp
   rw[hb] at this
   cases this
   exact hl hG.len
theorem qQy {t:List Nod} (hs:qAS t):∃ b,qRf t=some ((b,()),())/\(b=true ↔ ∃ F,VT t F):=by
 unfold qRf
 rcases qHy hs with ⟨F,h1,h2⟩ | ⟨h1,h2⟩
 ·rw[h2,qAA];exact ⟨_,rfl,fun _=>⟨F,h1⟩,fun _=>rfl⟩
 ·rw[h2,qAA];exact ⟨_,rfl,fun h=>(by cases h),fun h=>absurd h h1⟩
end Go.AM.Num
end
section
namespace Go.AM.Num
inductive SV where
 |b (x:Bool)
 |z (n:Int)
 |q (r:Rat)
 |a (d:Int) (P:KV)
def encS:SV->Val
 |.b x=>(1,x,[],[],[])
 |.z n=>(2,false,ti n,[],[])
 |.q r=>(3,false,txt r,[],[])
 |.a d P=>qJH d P
def qWE:SV->Int
 |.b _=>1
 |.z _=>2
 |.q _=>3
 |.a _ _=>4
def okS:SV->Prop
 |.a d P=>Canon d P
 |_=>True
def isT:SV->Bool
 |.b x=>x
 |_=>false
def qLO:SV->Rat
 |.z n=>(n:Rat)
 |.q r=>r
 |_=>0
def intV (v:SV):Int:=(qLO v).num
def qCr (s:Int) (r:Rat):SV:=if s=2 then .z r.num else .q r
def atS:SV->Int->Int
 |.a d P,i=>atP d P i
 |_,_=>0
def stS:SV->Int->Int->SV
 |.a d P,i,n=>.a d (stP d P i n)
 |v,_,_=>v
def sumQ (vs:List SV):Rat:=vs.foldl (fun s v=>s+qLO v) 0
noncomputable def qJe (n:Nod):Rat:=(rd (qAU n)).getD 0
open Classical in
noncomputable def opV (n:Nod) (vs:List SV):SV:=
 if nOp n=1\/nOp n=7 then .b (vs.all isT)
 else if nOp n=2\/nOp n=8 then .b (vs.any isT)
 else if nOp n=6 then .b (!isT (vs.getD 0 (.b false)))
 else if nOp n=9 then .b (!isT (vs.getD 0 (.b false))||isT (vs.getD 1 (.b false)))
 else if nOp n=10 then (if isT (vs.getD 0 (.b false))=true then vs.getD 1 (.b false) else vs.getD 2 (.b false))
 else if nOp n=11 then .b (decide (vs.getD 0 (.b false)=vs.getD 1 (.b false)))
 else if nOp n=12 then .b (decide (qLO (vs.getD 0 (.b false))<=qLO (vs.getD 1 (.b false))))
 else if nOp n=13 then .b (decide (qLO (vs.getD 0 (.b false)) < qLO (vs.getD 1 (.b false))))
 else if nOp n=3 then qCr (qHG n) (qJe n)
 else if nOp n=14 then qCr (qWE (vs.getD 0 (.b false))) (sumQ vs)
 else if nOp n=15 then qCr (qWE (vs.getD 0 (.b false))) (qLO (vs.getD 0 (.b false)) * qLO (vs.getD 1 (.b false)))
 else if nOp n=16 then .z (intV (vs.getD 0 (.b false)) / (qJe n).num)
 else if nOp n=17 then .z (intV (vs.getD 0 (.b false)) % (qJe n).num)
 else if nOp n=18 then .z (atS (vs.getD 0 (.b false)) (intV (vs.getD 1 (.b false))))
 else if nOp n=19 then stS (vs.getD 0 (.b false)) (intV (vs.getD 1 (.b false))) (intV (vs.getD 2 (.b false)))
 else .a (intV (vs.getD 0 (.b false))) []
theorem qCR (v:SV):(encS v).1=qWE v:=by cases v<;>rfl
theorem qDau {P Q:KV} (h1:ks P=ks Q) (h2:vs P=vs Q):P=Q:=by
 induction P generalizing Q with
 |nil=>cases Q with
  |nil=>rfl
  |cons q Q=>simp[ks] at h1
 |cons p P ih=>
  cases Q with
  |nil=>simp[ks] at h1
  |cons q Q=>
   simp only[ks,vs,List.map_cons,List.cons.injEq] at h1 h2
   rw[ih h1.2 h2.2,Prod.ext (qVk h1.1) (qVk h2.1)]
theorem qIx {v w:SV} (h:encS v=encS w):v=w:=by
 have hs:=congrArg Prod.fst h
 rw[qCR,qCR] at hs
 cases v<;>cases w<;>simp only[qWE] at hs<;>first | (exfalso;revert hs;decide) | skip
 ·simp only[encS,Prod.mk.injEq] at h;rw[h.2.1]
 ·simp only[encS,Prod.mk.injEq] at h;rw[qVk h.2.2.1]
 ·simp only[encS,Prod.mk.injEq] at h;rw[txt_inj h.2.2.1]
 ·simp only[encS,Prod.mk.injEq] at h;rw[qVk h.2.2.1,qDau h.2.2.2.1 h.2.2.2.2]
theorem qBc {v:Val}:qOQ v=true ↔ v.2.2.2.1=[]/\v.2.2.2.2=[]:=by
 unfold qOQ
 simp only[qY0,decide_eq_true_eq,List.length_eq_zero_iff]
theorem qXx {v:Val}:qMF v=true ↔ ∃ s,okS s/\v=encS s:=by
 constructor
 ·intro h
  by_cases h4:v.1=4
  ·obtain ⟨d,P,e,c⟩:=qNad h h4
   exact ⟨.a d P,c,e⟩
  obtain ⟨s,b,num,k,w⟩:=v
  simp only at h4
  unfold qMF at h
  simp only at h
  split at h
  ·rename_i h1
   subst h1
   simp only[qY0,qBc,beq_iff_eq] at h
   obtain ⟨rfl,rfl,rfl⟩:=h
   exact ⟨.b b,trivial,rfl⟩
  ·split at h
   ·rename_i h1
    subst h1
    simp only[qY0,qBc,Bool.not_eq_true'] at h
    obtain ⟨⟨rfl,h2⟩,rfl,rfl⟩:=h
    obtain ⟨z,rfl⟩:=qLag h2
    exact ⟨.z z,trivial,rfl⟩
   ·split at h
    ·rename_i h1
     subst h1
     simp only[qY0,qBc,Bool.not_eq_true',Option.isSome_iff_exists] at h
     obtain ⟨⟨rfl,q,h2⟩,rfl,rfl⟩:=h
     have:=qBM h2
     subst this
     exact ⟨.q q,trivial,rfl⟩
    ·first | cases h | (rw[if_neg h4] at h;cases h)
 ·rintro ⟨s,h,rfl⟩
  cases s with
  |b x=>simp[encS,qMF,qOQ]
  |z n=>simp[encS,qMF,qOQ,qDZ]
  |q r=>simp[encS,qMF,qOQ,qPK]
  |a d P=>exact qRg h
theorem qGg {s:SV} (h:okS s):qMF (encS s)=true:=qXx.2 ⟨s,h,rfl⟩
theorem qQn {s:Int} (h:s=2\/s=3) (r:Rat):qWE (qCr s r)=s:=by
 unfold qCr
 split
 ·rename_i e;rw[e];rfl
 ·rcases h with h | h
  ·contradiction
  ·rw[h];rfl
theorem qJs (s:Int) (r:Rat):okS (qCr s r):=by unfold qCr;split<;>trivial
theorem qRaq {n:Nod} {vs:List SV} {f:Int} (hn:qRC n=true) (h4:nOp n≠4) (h5:nOp n≠5) (hc:qXA (nOp n) vs.length=true) (hs:qCD n f (vs.map qWE)≠0) (hok:∀ v∈vs,okS v) :
 qWE (opV n vs)=qCD n f (vs.map qWE)/\okS (opV n vs):=by
 obtain ⟨o,s,nm,num,kd⟩:=n
 simp only[nOp] at h4 h5 hc
 have hall:∀ ws:List SV,(if ∀ s∈ws.map qWE,s=1 then (1:Int) else 0)≠0->(1:Int)=if ∀ s∈ws.map qWE,s=1 then (1:Int) else 0:=fun ws h=>by
  split at h<;>rename_i hh
  ·rw[if_pos hh]
  ·exact absurd rfl h
 unfold opV qCD at *
 simp only[nOp,qHG] at *
 by_cases e3:o=3
 ·subst e3
  simp at hs ⊢
  refine ⟨qQn ?_ _,qJs _ _⟩
  simp[qRC] at hn
  rcases hn.2 with h | h
  ·exact .inl h.1
  ·exact .inr h.1
 rw[if_neg (show ¬ (o=3\/o=4\/o=5) by omega)] at hs ⊢
 by_cases e1:o=1\/o=7
 ·rw[if_pos e1,if_pos (by omega)]
  rw[if_pos (by omega)] at hs
  exact ⟨hall vs hs,trivial⟩
 rw[if_neg e1]
 by_cases e2:o=2\/o=8
 ·rw[if_pos e2,if_pos (by omega)]
  rw[if_pos (by omega)] at hs
  exact ⟨hall vs hs,trivial⟩
 rw[if_neg e2]
 by_cases e6:o=6
 ·rw[if_pos e6,if_pos (by omega)]
  rw[if_pos (by omega)] at hs
  exact ⟨hall vs hs,trivial⟩
 rw[if_neg e6]
 by_cases e9:o=9
 ·rw[if_pos e9,if_pos (by omega)]
  rw[if_pos (by omega)] at hs
  exact ⟨hall vs hs,trivial⟩
 rw[if_neg e9]
 rw[if_neg (show ¬ (o=1\/o=2\/o=6\/o=7\/o=8\/o=9) by omega)] at hs ⊢
 by_cases e10:o=10
 ·subst e10
  rcases vs with _ | ⟨a,_ | ⟨b,_ | ⟨c,_ | ⟨d,l⟩⟩⟩⟩<;>simp[qXA] at hc
  ·simp at hs hok ⊢
   by_cases q:isT a=true
   ·rw[if_pos q,if_pos ⟨hs.1,hs.2.1⟩];exact ⟨rfl,hok.2.1⟩
   ·rw[if_neg q,if_pos ⟨hs.1,hs.2.1⟩];exact ⟨hs.2.1.symm,hok.2.2⟩
  ·omega
 rw[if_neg e10] at hs ⊢
 rw[if_neg e10]
 by_cases e11:o=11
 ·subst e11
  simp at hs ⊢
  rw[if_pos hs];exact ⟨rfl,trivial⟩
 rw[if_neg e11] at hs ⊢
 rw[if_neg e11]
 by_cases e12:o=12
 ·subst e12
  simp only[true_or,if_true] at hs ⊢
  split at hs<;>rename_i hh
  ·rw[if_pos hh];exact ⟨rfl,trivial⟩
  ·exact absurd rfl hs
 rw[if_neg e12]
 by_cases e13:o=13
 ·subst e13
  simp only[or_true,if_true] at hs ⊢
  split at hs<;>rename_i hh
  ·rw[if_pos hh];exact ⟨rfl,trivial⟩
  ·exact absurd rfl hs
 rw[if_neg e13,if_neg e3]
 rw[if_neg (show ¬ (o=12\/o=13) by omega)] at hs ⊢
 by_cases e14:o=14
 ·subst e14
  rcases vs with _ | ⟨a,l⟩<;>simp[qXA] at hc
  simp only[if_true,List.map_cons,qZ3] at hs ⊢
  split at hs<;>rename_i hh
  ·rw[if_pos hh];exact ⟨qQn hh.1 _,qJs _ _⟩
  ·exact absurd rfl hs
 rw[if_neg e14] at hs ⊢
 rw[if_neg e14]
 by_cases e15:o=15
 ·subst e15
  rcases vs with _ | ⟨a,l⟩<;>simp[qXA] at hc
  simp only[if_true,List.map_cons,qZ3] at hs ⊢
  split at hs<;>rename_i hh
  ·rw[if_pos hh];exact ⟨qQn hh.2.1 _,qJs _ _⟩
  ·exact absurd rfl hs
 rw[if_neg e15] at hs ⊢
 rw[if_neg e15]
 by_cases e16:o=16
 ·rw[if_pos e16,if_pos (.inl e16)]
  rw[if_pos (.inl e16)] at hs
  split at hs<;>rename_i hh
  ·rw[if_pos hh];exact ⟨rfl,trivial⟩
  ·exact absurd rfl hs
 rw[if_neg e16]
 by_cases e17:o=17
 ·rw[if_pos e17,if_pos (.inr e17)]
  rw[if_pos (.inr e17)] at hs
  split at hs<;>rename_i hh
  ·rw[if_pos hh];exact ⟨rfl,trivial⟩
  ·exact absurd rfl hs
 rw[if_neg e17]
 rw[if_neg (show ¬ (o=16\/o=17) by omega)] at hs ⊢
 by_cases e18:o=18
 ·rw[if_pos e18] at hs ⊢
  rw[if_pos e18]
  split at hs<;>rename_i hh
  ·rw[if_pos hh];exact ⟨rfl,trivial⟩
  ·exact absurd rfl hs
 rw[if_neg e18] at hs ⊢
 rw[if_neg e18]
 by_cases e19:o=19
 ·subst e19
  rcases vs with _ | ⟨a,_ | ⟨b,_ | ⟨c,_ | ⟨d,l⟩⟩⟩⟩<;>simp[qXA] at hc
  ·simp at hs hok ⊢
   rw[if_pos hs]
   cases a with
   |a d P=>exact ⟨rfl,qBg hok.1 _ _⟩
   |b x=>simp[qWE] at hs
   |z x=>simp[qWE] at hs
   |q x=>simp[qWE] at hs
  ·omega
 rw[if_neg e19] at hs ⊢
 rw[if_neg e19]
 split at hs<;>rename_i hh
 ·rw[if_pos hh]
  split at hs<;>rename_i h2
  ·rw[if_pos h2];exact ⟨rfl,qMb _⟩
  ·exact absurd rfl hs
 ·exact absurd rfl hs
structure Ht (m:Nat) (r:Rat):Prop where
 num:(dd r.num.natAbs).length<=m
 den:(dd r.den).length<=m
theorem Ht.mono {m k:Nat} {r:Rat} (h:Ht m r) (hk:m<=k):Ht k r:=⟨by have:=h.num;omega,by have:=h.den;omega⟩
theorem Ht.D {m:Nat} {r:Rat} (h:Ht m r):D r<=2 * m:=by have:=h.num;have:=h.den;unfold Num.D;omega
theorem qFu {m:Nat} {r:Rat} (h:D r<=m):Ht m r:=by unfold Num.D at h;exact ⟨by omega,by omega⟩
theorem qOas {n:Int} {d m:Nat} (hd:d≠0) (h1:(dd n.natAbs).length<=m) (h2:(dd d).length<=m):Ht m (mkRat n d):=by
 have e1:(n / (d.gcd n.natAbs:Nat)).natAbs<=n.natAbs:=by
  obtain ⟨k,hk⟩:((d.gcd n.natAbs:Nat):Int) ∣ n:=by
   have:=Nat.gcd_dvd_right d n.natAbs
   exact Int.ofNat_dvd_left.2 this
  have hg:((d.gcd n.natAbs:Nat):Int)≠0:=fun e=>hd (Nat.gcd_eq_zero_iff.1 (by exact_mod_cast e)).1
  have e1:n / (d.gcd n.natAbs:Nat)=k:=by
   conv=>lhs;lhs;rw[hk]
   exact Int.mul_ediv_cancel_left _ hg
  rw[e1]
  conv=>rhs;rw[hk,Int.natAbs_mul]
  exact Nat.le_mul_of_pos_left _ (by omega)
 have e2:=Nat.div_le_self d (d.gcd n.natAbs)
 have:=qDB e1
 have:=qDB e2
 refine ⟨?_,?_⟩
 ·rw[Rat.num_mkRat,if_neg hd];omega
 ·rw[Rat.den_mkRat,if_neg hd];omega
theorem qRag {m k:Nat} {p q:Rat} (hp:Ht m p) (hq:Ht k q):Ht (m+k+1) (p+q):=by
 rw[Rat.add_def']
 have h1:=qDB (qOY (p.num * q.den) (q.num * p.den))
 have h2:=qLP (p.num * q.den).natAbs (q.num * p.den).natAbs
 rw[Int.natAbs_mul,Int.natAbs_mul,Int.natAbs_natCast,Int.natAbs_natCast] at h1 h2
 have h3:=qCC p.num.natAbs q.den
 have h4:=qCC q.num.natAbs p.den
 have h5:=qCC p.den q.den
 have:=hp.num;have:=hp.den;have:=hq.num;have:=hq.den
 exact qOas (Nat.mul_ne_zero p.den_nz q.den_nz) (by omega) (by omega)
theorem qGat {m k:Nat} {p q:Rat} (hp:Ht m p) (hq:Ht k q):Ht (m+k) (p * q):=by
 rw[Rat.mul_def']
 have h1:=qCC p.num.natAbs q.num.natAbs
 have h5:=qCC p.den q.den
 have:=hp.num;have:=hp.den;have:=hq.num;have:=hq.den
 exact qOas (Nat.mul_ne_zero p.den_nz q.den_nz) (by rw[Int.natAbs_mul];omega) (by omega)
theorem qST {m:Nat} {n:Int} (h:(dd n.natAbs).length<=m):Ht m (n:Rat):=by
 refine ⟨by rw[Rat.num_intCast];exact h,?_⟩
 rw[Rat.den_intCast,qRN]
 have:=qUP n.natAbs
 simp;omega
theorem qMh {m:Nat} {r:Rat} (h:Ht m r):Ht m ((r.num:Int):Rat):=qST h.num
theorem qHan {m:Nat} {x y:Int} (h:Ht m (x:Rat)) (hy:y.natAbs<=x.natAbs):Ht m (y:Rat):=by
 have:=h.num
 rw[Rat.num_intCast] at this
 exact qST (by have:=qDB hy;omega)
def Bdd (B:Nat):SV->Prop
 |.b _=>True
 |.z n=>Ht B (n:Rat)
 |.q r=>Ht B r
 |.a d P=>Ht B (d:Rat)/\(∀ p∈P,Ht B (p.1:Rat)/\Ht B (p.2:Rat))/\P.length<=B
theorem Bdd.mono {B C:Nat} {v:SV} (h:Bdd B v) (hc:B<=C):Bdd C v:=by
 cases v with
 |b _=>trivial
 |z n=>exact Ht.mono h hc
 |q r=>exact Ht.mono h hc
 |a d P=>
  obtain ⟨h1,h2,h3⟩:=h
  exact ⟨h1.mono hc,fun p hp=>⟨(h2 p hp).1.mono hc,(h2 p hp).2.mono hc⟩,by omega⟩
theorem qNM {B:Nat} {v:SV} (h:Bdd B v) (hB:1<=B):Ht B (qLO v):=by
 have h0:Ht B ((0:Int):Rat):=qST (by simp[qFD];exact hB)
 cases v with
 |b _=>exact h0
 |z n=>exact h
 |q r=>exact h
 |a d P=>exact h0
theorem qFX {B:Nat} {v:SV} (h:Bdd B v) (hB:1<=B):Ht B ((intV v:Int):Rat):=qMh (qNM h hB)
def Hs:List SV->Nat->Prop
 |[],_=>True
 |v::vs,B=>∃ b c,1<=b/\Bdd b v/\Hs vs c/\b+1+c<=B
theorem Hs.mono {vs:List SV} {B C:Nat} (h:Hs vs B) (hc:B<=C):Hs vs C:=by
 cases vs with
 |nil=>trivial
 |cons v vs=>obtain ⟨b,c,h1,h2,h3,h4⟩:=h;exact ⟨b,c,h1,h2,h3,by omega⟩
theorem Hs.mem:∀ {vs:List SV} {B:Nat},Hs vs B->∀ v∈vs,Bdd B v:=by
 intro vs
 induction vs with
 |nil=>intro B _ v hv;cases hv
 |cons w vs ih=>
  intro B h v hv
  obtain ⟨b,c,h1,h2,h3,h4⟩:=h
  rcases List.mem_cons.1 hv with rfl | hv
  ·exact h2.mono (by omega)
  ·exact (ih h3 v hv).mono (by omega)
theorem Hs.sum:∀ {vs:List SV} {a B:Nat} {r:Rat},Ht a r->Hs vs B->Ht (a+B) (vs.foldl (fun s v=>s+qLO v) r):=by
 intro vs
 induction vs with
 |nil=>intro a B r h _;exact h.mono (by omega)
 |cons w vs ih=>
  intro a B r h hs
  obtain ⟨b,c,h1,h2,h3,h4⟩:=hs
  exact (ih (qRag h (qNM h2 h1)) h3).mono (by omega)
theorem Hs.get {vs:List SV} {B:Nat} (h:Hs vs B) (i:Nat):Bdd B (vs.getD i (.b false)):=by
 rw[qZ4]
 cases hi:vs[i]? with
 |none=>trivial
 |some v=>exact h.mem v (qY14 hi)
theorem qFak (i:Int):∀ P:KV,(lo i P).length+(hi i P).length<=P.length:=by
 intro P
 induction P with
 |nil=>simp[lo,hi]
 |cons p P ih=>
  simp only[lo,hi] at ih
  simp only[lo,hi,List.filter_cons]
  by_cases h1:p.1 < i
  ·rw[if_pos (qZ10 h1),if_neg (by simp;omega)];simp;omega
  ·rw[if_neg (by simp;omega)]
   split<;>simp<;>omega
theorem qFs {B:Nat} {r:Rat} (s:Int) (h:Ht B r):Bdd B (qCr s r):=by unfold qCr;split;exact qMh h;exact h
theorem qKat {n:Nod} {vs:List SV} {B:Nat} (hB:Hs vs B) (hn:Ht 75 (qJe n)):Bdd (B+79) (opV n vs):=by
 have g:=hB.get
 have gi:∀ i,Ht (B+1) ((intV (vs.getD i (.b false)):Int):Rat):=fun i=>qFX ((g i).mono (by omega)) (by omega)
 have gv:∀ i,Ht (B+1) (qLO (vs.getD i (.b false))):=fun i=>qNM ((g i).mono (by omega)) (by omega)
 unfold opV
 by_cases c0:nOp n=1\/nOp n=7
 ·rw[if_pos c0];trivial
 rw[if_neg c0]
 by_cases c1:nOp n=2\/nOp n=8
 ·rw[if_pos c1];trivial
 rw[if_neg c1]
 by_cases c2:nOp n=6
 ·rw[if_pos c2];trivial
 rw[if_neg c2]
 by_cases c3:nOp n=9
 ·rw[if_pos c3];trivial
 rw[if_neg c3]
 by_cases c4:nOp n=10
 ·rw[if_pos c4]
  split<;>exact (g _).mono (by omega)
 rw[if_neg c4]
 by_cases c5:nOp n=11
 ·rw[if_pos c5];trivial
 rw[if_neg c5]
 by_cases c6:nOp n=12
 ·rw[if_pos c6];trivial
 rw[if_neg c6]
 by_cases c7:nOp n=13
 ·rw[if_pos c7];trivial
 rw[if_neg c7]
 by_cases c8:nOp n=3
 ·rw[if_pos c8];exact qFs _ (hn.mono (by omega))
 rw[if_neg c8]
 by_cases c9:nOp n=14
 ·rw[if_pos c9]
  have h0:Ht 1 (0:Rat):=qST (n:=0) (by simp[qFD])
  exact qFs _ ((hB.sum h0).mono (by omega))
 rw[if_neg c9]
 by_cases c10:nOp n=15
 ·rw[if_pos c10]
  refine qFs _ ?_
  rcases vs with _ | ⟨a,_ | ⟨b,l⟩⟩
  ·simp only[List.getD_nil,qLO]
   rw[Rat.zero_mul]
   exact qST (n:=0) (by simp[qFD])
  ·simp only[qZ2,List.getD_nil,qLO]
   rw[Rat.mul_zero]
   exact qST (n:=0) (by simp[qFD])
  ·obtain ⟨x,c,h1,h2,⟨y,c2,h5,h6,h7,h8⟩,h4⟩:=hB
   simp only[qZ2,qZ3]
   exact (qGat (qNM h2 h1) (qNM h6 h5)).mono (by omega)
 rw[if_neg c10]
 by_cases c11:nOp n=16
 ·rw[if_pos c11]
  have:(intV (vs.getD 0 (.b false)) / (qJe n).num).natAbs<=(intV (vs.getD 0 (.b false))).natAbs:=by
   have h:=Int.natAbs_ediv_le_natAbs (intV (vs.getD 0 (.b false))) (qJe n).num
   exact h
  exact (qHan (gi 0) this).mono (by omega)
 rw[if_neg c11]
 by_cases c12:nOp n=17
 ·rw[if_pos c12]
  by_cases hz:(qJe n).num=0
  ·rw[hz,Int.emod_zero];exact (gi 0).mono (by omega)
  ·have:(intV (vs.getD 0 (.b false)) % (qJe n).num).natAbs<=(qJe n).num.natAbs:=by
    have h1:=Int.emod_nonneg (intV (vs.getD 0 (.b false))) hz
    have h2:=Int.emod_lt (intV (vs.getD 0 (.b false))) hz
    omega
   exact (qHan (qMh hn) this).mono (by omega)
 rw[if_neg c12]
 by_cases c13:nOp n=18
 ·rw[if_pos c13]
  have ga:=g 0
  generalize vs.getD 0 (.b false)=v at ga
  cases v with
  |a d P=>
   obtain ⟨h1,h2,h3⟩:=ga
   have:atP d P (intV (vs.getD 1 (.b false)))=d\/∃ p∈P,atP d P (intV (vs.getD 1 (.b false)))=p.2:=by
    unfold atP
    cases hf:P.find? fun p=>decide (p.1=intV (vs.getD 1 (.b false))) with
    |none=>exact .inl rfl
    |some p=>exact .inr ⟨p,List.mem_of_find?_eq_some hf,rfl⟩
   simp only[atS]
   rcases this with e | ⟨p,hp,e⟩
   ·rw[e];exact h1.mono (by omega)
   ·rw[e];exact (h2 p hp).2.mono (by omega)
  |b _=>exact qST (n:=0) (by simp[qFD])
  |z _=>exact qST (n:=0) (by simp[qFD])
  |q _=>exact qST (n:=0) (by simp[qFD])
 rw[if_neg c13]
 by_cases c14:nOp n=19
 ·rw[if_pos c14]
  have ga:=g 0
  generalize vs.getD 0 (.b false)=v at ga
  cases v with
  |a d P=>
   obtain ⟨h1,h2,h3⟩:=ga
   simp only[stS]
   refine ⟨h1.mono (by omega),fun p hp=>?_,?_⟩
   ·unfold stP at hp
    rcases List.mem_append.1 hp with hp | hp
    ·rcases List.mem_append.1 hp with hp | hp
     ·have:=h2 p (qXj.1 hp).1;exact ⟨this.1.mono (by omega),this.2.mono (by omega)⟩
     ·split at hp
      ·cases hp
      ·rw[List.mem_singleton.1 hp];exact ⟨(gi 1).mono (by omega),(gi 2).mono (by omega)⟩
    ·have:=h2 p (qQp.1 hp).1;exact ⟨this.1.mono (by omega),this.2.mono (by omega)⟩
   ·have e:=qFak (intV (vs.getD 1 (.b false))) P
    unfold stP
    simp only[qZ6]
    split<;>simp only[List.length_nil,qY11]<;>omega
  |b _=>trivial
  |z _=>exact Ht.mono ga (by omega)
  |q _=>exact Ht.mono ga (by omega)
 rw[if_neg c14]
 ·exact ⟨(gi 0).mono (by omega),fun p hp=>absurd hp qY16,Nat.zero_le _⟩
end Go.AM.Num
end
section
namespace Go.AM.Num
open Tf
noncomputable def evN (A:qBs->Option SV) (G:Nod->List SV->Int ⊕ SV) (n:Nod) (vs:List SV):Int ⊕ SV:=
 if nOp n=4 then (match A (qDP n) with | none=>.inl 7 | some v=>if qWE v=qHG n then .inr v else .inl 3)
 else if nOp n=5 then G n vs
 else .inr (opV n vs)
noncomputable def evF (A:qBs->Option SV) (G:Nod->List SV->Int ⊕ SV):Tf->Int ⊕ List SV
 |.nil=>.inr []
 |.cons n k r=>match evF A G k with
  |.inl e=>.inl e
  |.inr vs=>match evN A G n vs with
   |.inl e=>.inl e
   |.inr v=>match evF A G r with
    |.inl e=>.inl e
    |.inr ws=>.inr (v::ws)
structure EA (A:qBs->Option SV) (G:Nod->List SV->Int ⊕ SV):Prop where
 ok:∀ nm v,A nm=some v->okS v/\Bdd 75 v
 fn:∀ n vs v,G n vs=.inr v->okS v/\Bdd 75 v/\qWE v=qHG n
 er:∀ n vs e,G n vs=.inl e->e≠0
def qVT (f:Tf):Prop:=∀ n∈f.flat,(qAU n).length<=73
theorem qUu {n:Nod} (h:(qAU n).length<=73):Ht 75 (qJe n):=by
 unfold qJe
 cases hr:rd (qAU n) with
 |none=>exact qST (n:=0) (by simp[qFD])
 |some q=>
  have e:=qBM hr
  have:=D_le q
  rw[<-e] at this
  exact qFu (r:=q) (by omega)
theorem qPV {n:Nod}:okN n=true ↔ qRC n=true/\qXA (nOp n) (qRF n)=true:=by unfold okN;rw[qY0]
theorem qWB {A:qBs->Option SV} {G:Nod->List SV->Int ⊕ SV} (hE:EA A G):∀ (F:Tf),F.wf=true->(0:Int)∉F.srt->qVT F->∀ vs,evF A G F=.inr vs->vs.map qWE=F.srt/\(∀ v∈vs,okS v)/\Hs vs (80 * F.size):=by
 intro F
 induction F with
 |nil=>
  intro _ _ _ vs h
  simp only[evF,Sum.inr.injEq] at h
  subst h
  exact ⟨rfl,fun v hv=>(by cases hv),trivial⟩
 |cons n k r ik ir=>
  intro hw hs hn vs h
  obtain ⟨w1,w2,w3,w4⟩:=qSH.1 hw
  obtain ⟨s1,s2,s3⟩:=qKJ.1 hs
  have hnk:qVT k:=fun m hm=>hn m (by simp only[flat,qY12,qZ7];exact .inr (.inl hm))
  have hnr:qVT r:=fun m hm=>hn m (by simp only[flat,qY12,qZ7];exact .inr (.inr hm))
  have hnn:=qUu (hn n (by simp[flat]))
  simp only[evF] at h
  split at h
  ·cases h
  rename_i ks hk
  obtain ⟨k1,k2,k3⟩:=ik w3 s1 hnk _ hk
  split at h
  ·cases h
  rename_i v hv
  split at h
  ·cases h
  rename_i ws hr
  obtain ⟨r1,r2,r3⟩:=ir w4 s3 hnr _ hr
  simp only[Sum.inr.injEq] at h
  subst h
  have key:qWE v=qCD n (op1 k) k.srt/\okS v/\Bdd (80 * k.size+79) v:=by
   unfold evN at hv
   split at hv
   ·rename_i h4
    split at hv
    ·cases hv
    rename_i u hu
    split at hv
    ·rename_i e
     simp only[Sum.inr.injEq] at hv
     subst hv
     obtain ⟨a1,a2⟩:=hE.ok _ _ hu
     exact ⟨by rw[e];unfold qCD;rw[if_pos (by omega)],a1,a2.mono (by omega)⟩
    ·cases hv
   ·rename_i h4
    split at hv
    ·rename_i h5
     obtain ⟨a1,a2,a3⟩:=hE.fn _ _ _ hv
     exact ⟨by rw[a3];unfold qCD;rw[if_pos (by omega)],a1,a2.mono (by omega)⟩
    ·rename_i h5
     simp only[Sum.inr.injEq] at hv
     subst hv
     obtain ⟨f1,f2⟩:=qPV.1 w1
     have hl:(ks.length:Int)=qRF n:=by
      have:=congrArg List.length k1
      rw[List.length_map,qQM] at this
      omega
     obtain ⟨a1,a2⟩:=qRaq (f:=op1 k) f1 h4 h5 (by rw[hl];exact f2) (by rw[k1];exact s2) k2
     rw[k1] at a1
     exact ⟨a1,a2,qKat k3 hnn⟩
  obtain ⟨q1,q2,q3⟩:=key
  refine ⟨?_,?_,?_⟩
  ·simp only[List.map_cons,srt,r1,q1]
   rw[if_neg s1]
  ·intro u hu
   rcases List.mem_cons.1 hu with rfl | hu
   ·exact q2
   ·exact r2 u hu
  ·exact ⟨80 * k.size+79,80 * r.size,by omega,q3,r3,by simp only[size];omega⟩
theorem qLaf {vs:List SV} {i:Nat} (h:i < vs.length):(vs.map encS).getD i qHD=encS (vs.getD i (.b false)):=by
 simp[qZ4,h]
theorem qGM (v:SV):(encS v).2.1=isT v:=by cases v<;>rfl
theorem qHM {v:SV} (h:qWE v=2\/qWE v=3):(encS v).2.2.1=txt (qLO v):=by
 cases v with
 |z n=>rfl
 |q r=>rfl
 |b x=>simp[qWE] at h
 |a d P=>simp[qWE] at h
theorem qVI {v:SV} (h:qWE v=2):v=.z (intV v)/\(encS v).2.2.1=ti (intV v)/\qLO v=(intV v:Rat):=by
 cases v with
 |z n=>
  have e:intV (.z n)=n:=by unfold intV qLO;exact Rat.num_intCast n
  rw[e];exact ⟨rfl,rfl,rfl⟩
 |q r=>simp[qWE] at h
 |b x=>simp[qWE] at h
 |a d P=>simp[qWE] at h
theorem qQl {v:SV} (h:qWE v=4):∃ d P,v=.a d P:=by
 cases v with
 |z n=>simp[qWE] at h
 |q r=>simp[qWE] at h
 |b x=>simp[qWE] at h
 |a d P=>exact ⟨d,P,rfl⟩
theorem qLW {s:Int} {r:Rat} (hs:s=2\/s=3) (h:s=2->r.den=1):encS (qCr s r)=(s,false,txt r,[],[]):=by
 unfold qCr
 split
 ·rename_i e
  have:=qMl (h e)
  rw[e]
  simp only[encS,ti]
  rw[<-this]
 ·have:s=3:=by omega
  rw[this];rfl
theorem qDad {α:Type} (p:α->Bool) (l:List α):(l.all fun x=>!p x)=!l.any p:=by
 induction l with
 |nil=>rfl
 |cons a l ih=>simp only[List.all_cons,List.any_cons,ih,Bool.not_or]
theorem qQZ {st:(List Val)×Unit×Int×Int×Int×Unit->Option (Ex×((List Val)×Unit×Int×Int×Int×Unit))} {l:List Val} {p:Val->Bool} (hl:l.length<=1000000000)
 (hg:∀ k,k < l.length->st (l,(),0,(l.length:Int),(k:Int),())=some (if p (l.getD k qHD) then (.ret,(l,(),(k:Int),(l.length:Int),(k:Int),())) else (.normal,(l,(),0,(l.length:Int),((k+1:Nat):Int),()))))
 (he:st (l,(),0,(l.length:Int),(l.length:Int),())=some (.exit 0,(l,(),0,(l.length:Int),(l.length:Int),()))) :
 (l.any p=false/\qPA st (l,(),0,(l.length:Int),0,())=some (.exit 0,(l,(),0,(l.length:Int),(l.length:Int),())))\/(l.any p=true/\∃ k:Nat,qPA st (l,(),0,(l.length:Int),0,())=some (.ret,(l,(),(k:Int),(l.length:Int),(k:Int),()))):=by
 have key:=qKI (step:=st) (fun k=>(l,(),(0:Int),(l.length:Int),(k:Int),())) (fun k=>(l,(),(k:Int),(l.length:Int),(k:Int),())) l.length (E:=.exit 0) (B:=.ret) (by simp) (by simp) (fun k=>!p (l.getD k qHD)) (fun k hk=>by
  rw[hg k hk]
  cases p (l.getD k qHD)<;>rfl) he
 rw[qWN l qHD (fun x=>!p x)] at key
 rw[qDad] at key
 rcases key with ⟨k1,k2⟩ | ⟨k1,k,k2⟩
 ·exact .inl ⟨by simpa using k1,k2⟩
 ·exact .inr ⟨by simpa using k1,k,k2⟩
theorem qIp {l:List Val} (hl:l.length<=1000000000):qIB l ()=some ((l.any fun v=>!v.2.1,()),()):=by
 have key:=qQZ (st:=qHB) (p:=fun v=>!v.2.1) hl (fun k hk=>by
  unfold qHB
  simp only
  rw[qIA (by omega),qEA,qBA (by omega),qBA (by omega),qZ0,w64 (by omega)]
  unfold qCv
  rw[qAA]
  cases (l.getD k qHD).2.1<;>rfl) (by
  unfold qHB
  simp only
  rw[qNA (by omega)])
 unfold qIB qWD
 rcases key with ⟨k1,k2⟩ | ⟨k1,k,k2⟩
 ·rw[k2,k1];rfl
 ·rw[k2,k1]
  simp only[qAA,qLD,qID,qOA,qWA]
  rw[qZ10 (by omega)]
theorem qMu {l:List Val} (hl:l.length<=1000000000):qLB l ()=some ((l.any fun v=>v.2.1,()),()):=by
 have key:=qQZ (st:=qKB) (p:=fun v=>v.2.1) hl (fun k hk=>by
  unfold qKB
  simp only
  rw[qIA (by omega),qEA,qBA (by omega),qBA (by omega),qZ0,w64 (by omega)]
  unfold v_is
  rw[qAA]
  cases (l.getD k qHD).2.1<;>rfl) (by
  unfold qKB
  simp only
  rw[qNA (by omega)])
 unfold qLB qHE
 rcases key with ⟨k1,k2⟩ | ⟨k1,k,k2⟩
 ·rw[k2,k1];rfl
 ·rw[k2,k1]
  simp only[qAA,qLD,qID,qOA,qWA]
  rw[qZ10 (by omega)]
theorem qVao (vs:List SV):((vs.map encS).any fun v=>!v.2.1)=!vs.all isT:=by
 induction vs with
 |nil=>rfl
 |cons v vs ih=>simp only[List.map_cons,List.any_cons,List.all_cons,ih,qGM,Bool.not_and]
theorem qXau (vs:List SV):((vs.map encS).any fun v=>v.2.1)=vs.any isT:=by
 induction vs with
 |nil=>rfl
 |cons v vs ih=>simp only[List.map_cons,List.any_cons,ih,qGM]
theorem qNam (l1:List Val) (t4:Val) (L:List SV) (hL:L.length<=100000):∀ (vs pre:List SV) (a B:Nat) (r:Rat),L=pre++vs->(∀ v∈vs,qWE v=2\/qWE v=3)->Ht a r->Hs vs B->a+B<=400000->
 qPA qGO (l1,t4,txt r,L.map encS,(L.length:Int),(pre.length:Int),())=some (.exit 1,(l1,t4,txt (vs.foldl (fun s v=>s+qLO v) r),L.map encS,(L.length:Int),(L.length:Int),())):=by
 intro vs
 induction vs with
 |nil=>
  intro pre a B r hL' _ _ _ _
  have:pre.length=L.length:=by rw[hL'];simp
  refine qTA ?_ (by simp)
  unfold qGO
  simp only
  rw[qNA (by omega),this]
  rfl
 |cons w vs ih=>
  intro pre a B r hL' hs hr hB hab
  obtain ⟨b,c,h1,h2,h3,h4⟩:=hB
  have hlen:L.length=pre.length+(vs.length+1):=by rw[hL'];simp
  have hg:(L.map encS).getD pre.length qHD=encS w:=by
   rw[qLaf (by omega),hL'];simp[qZ4]
  have hw:=qNM h2 h1
  rw[qAB (y:=(l1,t4,txt (r+qLO w),L.map encS,(L.length:Int),((pre++[w]).length:Int),())) (by
   unfold qGO
   simp only
   rw[qIA (by omega),qEA,qBA (by omega),qBA (by rw[List.length_map];omega),qZ0,hg,qHM (hs w (by simp)),qFaw (by have:=hr.D;omega) (by have:=hw.D;omega),qAA,w64 (by omega)]
   simp)]
  rw[ih (pre++[w]) (a+b+1) c (r+qLO w) (by rw[hL'];simp) (fun v hv=>hs v (by simp[hv])) (qRag hr hw) h3 (by omega)]
  rfl
theorem qRan (p q:Rat):(p - q).num.sign<=0 ↔ p<=q:=by
 have h1:(p - q).num.sign<=0 ↔ 0<=(-(p - q)).num:=by
  rw[Rat.neg_num]
  rcases Int.lt_trichotomy (p - q).num 0 with h | h | h
  ·rw[Int.sign_eq_neg_one_of_neg h];omega
  ·rw[h];simp
  ·rw[Int.sign_eq_one_of_pos h];omega
 rw[h1,Rat.num_nonneg]
 grind
theorem qKan (p q:Rat):(p - q).num.sign < 0 ↔ p < q:=by
 have h1:(p - q).num.sign < 0 ↔ ¬ 0<=(p - q).num:=by
  rw[qSu];omega
 rw[h1,Rat.num_nonneg]
 grind
theorem qHe {m:Nat} {z:Int} (h:Ht m (z:Rat)):(ti z).length<=m+1:=by
 have h1:=h.num
 rw[Rat.num_intCast] at h1
 have:=qTb (n:=z)
 unfold ti;omega
theorem qJal {B:Nat} {d:Int} {P:KV} (h:Bdd B (.a d P)) (hB:B<=99999):Sm 100000 d P:=by
 obtain ⟨h1,h2,h3⟩:=h
 exact ⟨by have:=qHe h1;omega,fun p hp=>⟨by have:=qHe (h2 p hp).1;omega,by have:=qHe (h2 p hp).2;omega⟩,by omega⟩
theorem qFae:∀ (vs:List SV) (r:Rat),r.den=1->(∀ v∈vs,qWE v=2)->(vs.foldl (fun s v=>s+qLO v) r).den=1:=by
 intro vs
 induction vs with
 |nil=>intro r h _;exact h
 |cons v vs ih=>
  intro r h hv
  refine ih _ ?_ fun w hw=>hv w (by simp[hw])
  show (r+qLO v).den=1
  rw[qMl h,(qVI (hv v (by simp))).2.2,<-Rat.intCast_add,Rat.den_intCast]
theorem qNn {n:Nod} (hf:qRC n=true) (ho:nOp n=16\/nOp n=17):∃ m:Int,0 < m/\qAU n=txt (m:Rat)/\(qJe n).num=m:=by
 unfold qRC at hf
 rw[if_neg (by omega),if_neg (by omega),if_pos ho] at hf
 simp only[qY0,decide_eq_true_eq] at hf
 obtain ⟨⟨_,h1⟩,h2⟩:=hf
 obtain ⟨m,h3,h4⟩:=qPJ h1
 refine ⟨m,?_,h3,by unfold qJe;rw[h4];exact Rat.num_intCast m⟩
 unfold qJT at h2
 rw[h4] at h2
 simp only[Rat.num_intCast] at h2
 rcases Int.lt_trichotomy m 0 with h | h | h
 ·rw[Int.sign_eq_neg_one_of_neg h] at h2;omega
 ·rw[h] at h2;simp at h2
 ·exact h
theorem qNs {n:Nod} (hf:qRC n=true) (ho:nOp n=3):(qHG n=2\/qHG n=3)/\qAU n=txt (qJe n)/\(qHG n=2->(qJe n).den=1):=by
 unfold qRC at hf
 rw[if_pos ho] at hf
 simp only[qY0,Bool.or_eq_true,decide_eq_true_eq] at hf
 unfold qJe
 rcases hf.2 with ⟨h1,h2⟩ | ⟨h1,h2⟩
 ·obtain ⟨m,h3,h4⟩:=qPJ h2
  rw[h4]
  exact ⟨.inl h1,h3,fun _=>Rat.den_intCast m⟩
 ·obtain ⟨q,h3⟩:=Option.isSome_iff_exists.1 h2
  rw[h3]
  exact ⟨.inr h1,qBM h3,fun e=>by omega⟩
theorem i0:(0:Int).toNat=0:=rfl
theorem i1:(1:Int).toNat=1:=rfl
theorem i2:(2:Int).toNat=2:=rfl
theorem qKp {n:Nod} {vs:List SV} {B:Nat} {f:Int} (hn:qRC n=true) (h4:nOp n≠4) (h5:nOp n≠5) (hbig:nOp n=3\/14<=nOp n) (hc:qXA (nOp n) vs.length=true) (hs:qCD n f (vs.map qWE)≠0)
 (hok:∀ v∈vs,okS v) (hB:Hs vs B) (hB9:B<=90000) (hnn:Ht 75 (qJe n)) (hl:vs.length<=100000):qPb n (vs.map encS)=some ((encS (opV n vs),()),()):=by
 have hop:1<=nOp n/\nOp n<=20:=by
  unfold qRC at hn
  split at hn
  ·omega
  ·split at hn
   ·omega
   ·split at hn
    ·omega
    ·simp only[qY0,decide_eq_true_eq] at hn
     exact hn.1.1.1
 unfold qPb
 have hO:n.1=nOp n:=rfl
 have hN:n.2.2.2.1=qAU n:=rfl
 have hS:n.2.1=qHG n:=rfl
 rw[hO,hN,hS]
 by_cases e3:nOp n=3
 ·rw[qFA e3]
  obtain ⟨a1,a2,a3⟩:=qNs hn e3
  have:opV n vs=qCr (qHG n) (qJe n):=by unfold opV;simp[e3]
  rw[this,qLW a1 a3,a2]
  rfl
 rw[qDA e3]
 have hv:opV n vs=if nOp n=14 then qCr (qWE (vs.getD 0 (.b false))) (sumQ vs)
  else if nOp n=15 then qCr (qWE (vs.getD 0 (.b false))) (qLO (vs.getD 0 (.b false)) * qLO (vs.getD 1 (.b false)))
  else if nOp n=16 then .z (intV (vs.getD 0 (.b false)) / (qJe n).num)
  else if nOp n=17 then .z (intV (vs.getD 0 (.b false)) % (qJe n).num)
  else if nOp n=18 then .z (atS (vs.getD 0 (.b false)) (intV (vs.getD 1 (.b false))))
  else if nOp n=19 then stS (vs.getD 0 (.b false)) (intV (vs.getD 1 (.b false))) (intV (vs.getD 2 (.b false)))
  else .a (intV (vs.getD 0 (.b false))) []:=by
  unfold opV
  rw[if_neg (by omega),if_neg (by omega),if_neg (by omega),if_neg (by omega),if_neg (by omega),if_neg (by omega),if_neg (by omega),if_neg (by omega),if_neg e3]
 rw[hv]
 have hst:qCD n f (vs.map qWE)=if nOp n=14 then (if ((vs.map qWE).getD 0 0=2\/(vs.map qWE).getD 0 0=3)/\∀ s∈vs.map qWE,s=(vs.map qWE).getD 0 0 then (vs.map qWE).getD 0 0 else 0)
  else if nOp n=15 then (if f=3/\((vs.map qWE).getD 0 0=2\/(vs.map qWE).getD 0 0=3)/\∀ s∈vs.map qWE,s=(vs.map qWE).getD 0 0 then (vs.map qWE).getD 0 0 else 0)
  else if nOp n=16\/nOp n=17 then (if (vs.map qWE).getD 0 0=2 then 2 else 0)
  else if nOp n=18 then (if (vs.map qWE).getD 0 0=4/\(vs.map qWE).getD 1 0=2 then 2 else 0)
  else if nOp n=19 then (if (vs.map qWE).getD 0 0=4/\(vs.map qWE).getD 1 0=2/\(vs.map qWE).getD 2 0=2 then 4 else 0)
  else if nOp n=20 then (if (vs.map qWE).getD 0 0=2 then 4 else 0) else 0:=by
  unfold qCD
  rw[if_neg (by omega),if_neg (by omega),if_neg (by omega),if_neg (by omega),if_neg (by omega)]
 rw[hst] at hs
 clear hv hst
 by_cases e14:nOp n=14
 ·rw[e14] at hc
  rw[if_pos e14] at hs
  rw[qFA e14,if_pos e14]
  rcases vs with _ | ⟨a,l⟩
  ·simp[qXA] at hc
  ·simp only[List.map_cons,qZ3] at hs ⊢
   split at hs
   ·rename_i hh
    obtain ⟨g1,g2⟩:=hh
    have hall:∀ v∈a::l,qWE v=qWE a:=fun v hv=>g2 (qWE v) (by
     rcases List.mem_cons.1 hv with rfl | hv
     ·simp
     ·exact qY13 _ (List.mem_map_of_mem hv))
    have h0:Ht 1 ((0:Int):Rat):=qST (by simp[qFD])
    have key:=qNam (encS a::l.map encS) ((0:Int),false,([]:qBs),([]:List qBs),([]:List qBs)) (a::l) hl (a::l) [] 1 B ((0:Int):Rat) rfl (fun v hv=>by rw[hall v hv];exact g1) h0 hB (by omega)
    rw[<-t0] at key
    simp only[List.length_nil,List.map_cons] at key
    rw[show ((0:Nat):Int)=0 from rfl] at key
    have hlen:(encS a::l.map encS).length=(a::l).length:=by simp
    rw[hlen,key]
    simp only[qAA,qJB,qOA]
    rw[qEA,qBA (by omega),qBA (by simp),i0,qZ3]
    have:qKL (encS a).1 (txt ((a::l).foldl (fun s v=>s+qLO v) ((0:Int):Rat)))=some (((qWE a,false,txt ((a::l).foldl (fun s v=>s+qLO v) ((0:Int):Rat)),[],[]),()),()):=by rw[qCR];rfl
    rw[this,qAA]
    have e:sumQ (a::l)=(a::l).foldl (fun s v=>s+qLO v) ((0:Int):Rat):=rfl
    rw[e,qLW g1 fun h2=>qFae _ _ (Rat.den_intCast 0) fun v hv=>by rw[hall v hv];exact h2]
   ·exact absurd rfl hs
 rw[if_neg e14] at hs
 rw[qDA e14,if_neg e14]
 by_cases e15:nOp n=15
 ·rw[e15] at hc
  rw[if_pos e15] at hs
  rw[qFA e15,if_pos e15]
  rcases vs with _ | ⟨a,_ | ⟨b,_ | ⟨c,l⟩⟩⟩<;>simp[qXA] at hc
  ·simp only[List.map_cons,List.map_nil,qZ3,qZ2] at hs ⊢
   split at hs
   ·rename_i hh
    obtain ⟨_,g1,g2⟩:=hh
    have hb:qWE b=qWE a:=g2 _ (by simp)
    obtain ⟨x,c,q1,q2,⟨y,c2,q5,q6,q7,q8⟩,q4⟩:=hB
    have ha':=qNM q2 q1
    have hb':=qNM q6 q5
    rw[qEA,qBA (by omega),qBA (by simp),qEA,qBA (by omega),qBA (by simp),qEA,qBA (by omega),qBA (by simp),i0,i1,qZ2,qZ3,qZ3,
     qHM g1,qHM (by rw[hb];exact g1),qMav (by have:=ha'.D;omega) (by have:=hb'.D;omega),qAA,qCR]
    rw[qLW g1 fun h2=>by
     rw[(qVI h2).2.2,(qVI (hb.trans h2)).2.2,<-Rat.intCast_mul,Rat.den_intCast]]
    rfl
   ·exact absurd rfl hs
  ·omega
 rw[if_neg e15] at hs
 rw[qDA e15,if_neg e15]
 by_cases e16:nOp n=16
 ·rw[e16] at hc
  rw[if_pos (.inl e16)] at hs
  rw[qFA e16,if_pos e16]
  obtain ⟨m,m1,m2,m3⟩:=qNn hn (.inl e16)
  rcases vs with _ | ⟨a,_ | ⟨b,l⟩⟩<;>simp[qXA] at hc
  ·simp only[List.map_cons,List.map_nil,qZ3] at hs ⊢
   split at hs
   ·rename_i hh
    have hi:=qVI hh
    have h1:=(qFX ((hB.mem a (by simp)).mono (Nat.le_add_right B 1)) (by omega)).D
    have h2:=(qMh hnn).D
    rw[m3] at h2
    rw[qEA,qBA (by omega),qBA (by simp),i0,qZ3,hi.2.1,m2,m3]
    unfold ti
    rw[qVav (by omega) (by omega) (by omega),qAA]
    rfl
   ·exact absurd rfl hs
  ·omega
 rw[qDA e16,if_neg e16]
 by_cases e17:nOp n=17
 ·rw[e17] at hc
  rw[if_pos (.inr e17)] at hs
  rw[qFA e17,if_pos e17]
  obtain ⟨m,m1,m2,m3⟩:=qNn hn (.inr e17)
  rcases vs with _ | ⟨a,_ | ⟨b,l⟩⟩<;>simp[qXA] at hc
  ·simp only[List.map_cons,List.map_nil,qZ3] at hs ⊢
   split at hs
   ·rename_i hh
    have hi:=qVI hh
    have h1:=(qFX ((hB.mem a (by simp)).mono (Nat.le_add_right B 1)) (by omega)).D
    have h2:=(qMh hnn).D
    rw[m3] at h2
    rw[qEA,qBA (by omega),qBA (by simp),i0,qZ3,hi.2.1,m2,m3]
    unfold ti
    rw[qMaw (by omega) (by omega) (by omega),qAA]
    rfl
   ·exact absurd rfl hs
  ·omega
 rw[if_neg (by omega)] at hs
 rw[qDA e17,if_neg e17]
 by_cases e18:nOp n=18
 ·rw[e18] at hc
  rw[if_pos e18] at hs
  rw[qFA e18,if_pos e18]
  rcases vs with _ | ⟨a,_ | ⟨b,_ | ⟨c,l⟩⟩⟩<;>simp[qXA] at hc
  ·simp only[List.map_cons,List.map_nil,qZ3,qZ2] at hs ⊢
   split at hs
   ·rename_i hh
    obtain ⟨d,P,rfl⟩:=qQl hh.1
    have hP:Canon d P:=hok _ (List.mem_cons_self)
    have hi:=qVI hh.2
    have hsm:=qJal (hB.mem (.a d P) (by simp)) (by omega)
    have h1:=qHe (qFX ((hB.mem b (by simp)).mono (Nat.le_add_right B 1)) (by omega))
    rw[qEA,qBA (by omega),qBA (by simp),qEA,qBA (by omega),qBA (by simp),i0,i1,qZ2,qZ3,qZ3,hi.2.1]
    have e:encS (.a d P)=qJH d P:=rfl
    rw[e,qHat (N:=100000) (by omega) hP.incr hsm (by omega),qAA]
    rfl
   ·exact absurd rfl hs
  ·omega
 rw[if_neg e18] at hs
 rw[qDA e18,if_neg e18]
 by_cases e19:nOp n=19
 ·rw[e19] at hc
  rw[if_pos e19] at hs
  rw[qFA e19,if_pos e19]
  rcases vs with _ | ⟨a,_ | ⟨b,_ | ⟨c,_ | ⟨d,l⟩⟩⟩⟩<;>simp[qXA] at hc
  ·simp only[List.map_cons,List.map_nil,qZ3,qZ2] at hs ⊢
   split at hs
   ·rename_i hh
    obtain ⟨d,P,rfl⟩:=qQl hh.1
    have hP:Canon d P:=hok _ (List.mem_cons_self)
    have hi:=qVI hh.2.1
    have hj:=qVI hh.2.2
    have hsm:=qJal (hB.mem (.a d P) (by simp)) (by omega)
    have h1:=qHe (qFX ((hB.mem b (by simp)).mono (Nat.le_add_right B 1)) (by omega))
    rw[qEA,qBA (by omega),qBA (by simp),qEA,qBA (by omega),qBA (by simp),qEA,qBA (by omega),qBA (by simp),i0,i1,i2,qZ2,qZ2,qZ2,qZ3,qZ3,qZ3,hi.2.1,hj.2.1]
    have e:encS (.a d P)=qJH d P:=rfl
    rw[e,qGak (N:=100000) (by omega) hP.incr hsm (by omega),qAA]
    rfl
   ·exact absurd rfl hs
  ·omega
 rw[if_neg e19] at hs
 rw[qDA e19,if_neg e19]
 have e20:nOp n=20:=by omega
 rw[e20] at hc
 rw[if_pos e20] at hs
 rcases vs with _ | ⟨a,_ | ⟨b,l⟩⟩<;>simp[qXA] at hc
 ·simp only[List.map_cons,List.map_nil,qZ3] at hs ⊢
  split at hs
  ·rename_i hh
   have hi:=qVI hh
   rw[qEA,qBA (by omega),qBA (by simp),i0,qZ3,hi.2.1]
   rfl
  ·exact absurd rfl hs
 ·omega
theorem qHak {B:Nat} {a b:SV} (h:Bdd B a) (hB:B<=90000):qXX (encS a) (encS b)=some ((decide (encS a=encS b),()),()):=by
 cases a with
 |a d P=>
  have:=h.2.2
  exact qAW (by simp only[encS,qEE];omega) (by simp only[encS,qRI];omega)
 |b x=>exact qAW (by simp[encS]) (by simp[encS])
 |z x=>exact qAW (by simp[encS]) (by simp[encS])
 |q x=>exact qAW (by simp[encS]) (by simp[encS])
theorem qZab (a b:SV) {i:Decidable (a=b)}:decide (encS a=encS b)=@decide (a=b) i:=by
 rw[decide_eq_decide]
 exact ⟨qIx,fun e=>by rw[e]⟩
theorem qVp {n:Nod} {vs:List SV} {B:Nat} {f:Int} (hn:qRC n=true) (h4:nOp n≠4) (h5:nOp n≠5) (hc:qXA (nOp n) vs.length=true) (hs:qCD n f (vs.map qWE)≠0)
 (hok:∀ v∈vs,okS v) (hB:Hs vs B) (hB9:B<=90000) (hnn:Ht 75 (qJe n)) (hl:vs.length<=100000):qFV n (vs.map encS)=some ((encS (opV n vs),()),()):=by
 have hlm:(vs.map encS).length<=1000000000:=by rw[List.length_map];omega
 have htr:∀ b:Bool,qUO b=some ((encS (.b b),()),()):=fun b=>rfl
 by_cases hbig:nOp n=3\/14<=nOp n
 ·unfold qFV
  have hO:n.1=nOp n:=rfl
  rw[hO,qDA (by omega),qDA (by omega),qDA (by omega),qDA (by omega),qDA (by omega),qDA (by omega),qDA (by omega),qDA (by omega),qDA (by omega),qDA (by omega),
   qKp hn h4 h5 hbig hc hs hok hB hB9 hnn hl,qAA]
 unfold qFV opV
 have hO:n.1=nOp n:=rfl
 rw[hO]
 simp only[qIp hlm,qMu hlm,qVao,qXau,qAA,htr,Bool.not_not]
 by_cases e1:nOp n=1
 ·rw[qFA e1,if_pos (.inl e1)]
 rw[qDA e1]
 by_cases e7:nOp n=7
 ·rw[qFA e7,if_pos (.inr e7)]
 rw[qDA e7,if_neg (by omega)]
 by_cases e2:nOp n=2
 ·rw[qFA e2,if_pos (.inl e2)]
 rw[qDA e2]
 by_cases e8:nOp n=8
 ·rw[qFA e8,if_pos (.inr e8)]
 rw[qDA e8,if_neg (by omega)]
 by_cases e6:nOp n=6
 ·rw[e6] at hc
  rw[qFA e6,if_pos e6]
  rcases vs with _ | ⟨a,_ | ⟨b,l⟩⟩<;>simp[qXA] at hc
  ·simp only[List.map_cons,List.map_nil,qZ3]
   rw[qEA,qBA (by omega),qBA (by simp),i0,qZ3]
   unfold qCv
   rw[qAA,qGM]
  ·omega
 rw[qDA e6,if_neg e6]
 by_cases e9:nOp n=9
 ·rw[e9] at hc
  rw[qFA e9,if_pos e9]
  rcases vs with _ | ⟨a,_ | ⟨b,_ | ⟨c,l⟩⟩⟩<;>simp[qXA] at hc
  ·simp only[List.map_cons,List.map_nil,qZ3,qZ2]
   rw[qEA,qBA (by omega),qBA (by simp),qEA,qBA (by omega),qBA (by simp),i0,i1,qZ2,qZ3,qZ3]
   unfold qCv v_is
   simp only[qAA,qGM,htr]
   cases isT a<;>rfl
  ·omega
 rw[qDA e9,if_neg e9]
 by_cases e10:nOp n=10
 ·rw[e10] at hc
  rw[qFA e10,if_pos e10]
  rcases vs with _ | ⟨a,_ | ⟨b,_ | ⟨c,_ | ⟨d,l⟩⟩⟩⟩<;>simp[qXA] at hc
  ·simp only[List.map_cons,List.map_nil,qZ3,qZ2]
   rw[qEA,qBA (by omega),qBA (by simp),qEA,qBA (by omega),qBA (by simp),qEA,qBA (by omega),qBA (by simp),i0,i1,i2,qZ2,qZ2,qZ2,qZ3,qZ3,qZ3]
   unfold v_is
   simp only[qAA,qGM]
   cases isT a<;>rfl
  ·omega
 rw[qDA e10,if_neg e10]
 by_cases e11:nOp n=11
 ·rw[e11] at hc
  rw[qFA e11,if_pos e11]
  rcases vs with _ | ⟨a,_ | ⟨b,_ | ⟨c,l⟩⟩⟩<;>simp[qXA] at hc
  ·simp only[List.map_cons,List.map_nil,qZ3,qZ2]
   rw[qEA,qBA (by omega),qBA (by simp),qEA,qBA (by omega),qBA (by simp),i0,i1,qZ2,qZ3,qZ3,qHak (hB.mem a (by simp)) hB9,qAA]
   simp only[qZ3,qZ2]
   exact congrArg (fun x=>some ((encS (SV.b x),()),())) (qZab a b)
  ·omega
 rw[qDA e11,if_neg e11]
 have hnum:nOp n=12\/nOp n=13->∃ a b,vs=[a,b]/\(qWE a=2\/qWE a=3)/\(qWE b=2\/qWE b=3):=by
  intro ho
  have hc2:vs.length=2:=by
   rcases ho with ho | ho<;>rw[ho] at hc<;>simp[qXA] at hc<;>omega
  unfold qCD at hs
  rw[if_neg (by omega),if_neg (by omega),if_neg (by omega),if_neg (by omega),if_pos ho] at hs
  rcases vs with _ | ⟨a,_ | ⟨b,_ | ⟨c,l⟩⟩⟩<;>simp at hc2
  ·simp only[List.map_cons,List.map_nil,qZ3] at hs
   split at hs
   ·rename_i hh
    have hb:qWE b=qWE a:=hh.2 _ (by simp)
    exact ⟨a,b,rfl,hh.1,by rw[hb];exact hh.1⟩
   ·exact absurd rfl hs
 by_cases e12:nOp n=12
 ·obtain ⟨a,b,rfl,ha,hb⟩:=hnum (.inl e12)
  have qa:=(qNM ((hB.mem a (by simp)).mono (Nat.le_add_right B 1)) (by omega)).D
  have qb:=(qNM ((hB.mem b (by simp)).mono (Nat.le_add_right B 1)) (by omega)).D
  rw[qFA e12,if_pos e12]
  simp only[List.map_cons,List.map_nil,qZ3,qZ2]
  rw[qEA,qBA (by omega),qBA (by simp),qEA,qBA (by omega),qBA (by simp),i0,i1,qZ2,qZ3,qZ3,qHM ha,qHM hb,qAau (by omega) (by omega),qAA]
  simp only[qZ3,qZ2]
  have e:decide ((qLO a - qLO b).num.sign<=0)=decide (qLO a<=qLO b):=by rw[decide_eq_decide];exact qRan _ _
  rw[e]
 rw[qDA e12,if_neg e12]
 by_cases e13:nOp n=13
 ·obtain ⟨a,b,rfl,ha,hb⟩:=hnum (.inr e13)
  have qa:=(qNM ((hB.mem a (by simp)).mono (Nat.le_add_right B 1)) (by omega)).D
  have qb:=(qNM ((hB.mem b (by simp)).mono (Nat.le_add_right B 1)) (by omega)).D
  rw[qFA e13,if_pos e13]
  simp only[List.map_cons,List.map_nil,qZ3,qZ2]
  rw[qEA,qBA (by omega),qBA (by simp),qEA,qBA (by omega),qBA (by simp),i0,i1,qZ2,qZ3,qZ3,qHM ha,qHM hb,qAau (by omega) (by omega),qAA]
  simp only[qZ3,qZ2]
  have e:decide ((qLO a - qLO b).num.sign < 0)=decide (qLO a < qLO b):=by rw[decide_eq_decide];exact qKan _ _
  rw[e]
 exfalso
 clear hO hnum htr hs
 unfold qRC at hn
 rw[if_neg (by omega),if_neg (by omega),if_neg (by omega)] at hn
 simp only[qY0,decide_eq_true_eq] at hn
 omega
abbrev Em:=List (qBs×Val)
abbrev Fm:=List (qBs×Interp)
structure EM (A:qBs->Option SV) (G:Nod->List SV->Int ⊕ SV) (env:Em) (fns:Fm):Prop where
 var:∀ nm,qPD nm env=(A nm).map encS
 call:∀ t p n vs B,Hs vs B->B<=90000->qQO (t,p,env,fns) n (vs.map encS)=some ((match G n vs with | .inl e=>(qHD,e,()) | .inr v=>(encS v,0,())),((t,p,env,fns),()))
def qTan (A:qBs->Option SV) (G:Nod->List SV->Int ⊕ SV) (env:Em) (fns:Fm) (t:List Nod) (nx:Evl->Option ((Val×Int×Unit)×(Evl×Unit))) (d:Nat):Prop:=
 ∀ (n:Nod) (k:Tf) (p:Nat) (rest:List Nod),t.drop p=n::(k.flat++rest)->(cons n k nil).wf=true->(0:Int)∉(cons n k nil).srt->qVT (cons n k nil)->k.dep+1<=d->
  match evF A G (cons n k nil) with
  |.inl e=>∃ y,nx (t,(p:Int),env,fns)=some ((qHD,e,()),(y,()))
  |.inr [v]=>nx (t,(p:Int),env,fns)=some ((encS v,0,()),((t,((p+1+k.size:Nat):Int),env,fns),()))
  |.inr _=>False
theorem qYaq {A:qBs->Option SV} {G:Nod->List SV->Int ⊕ SV} (hE:EA A G) {env:Em} {fns:Fm} {t:List Nod} (ht:t.length<=20000) {nx:Evl->Option ((Val×Int×Unit)×(Evl×Unit))} {d:Nat} (hnx:qTan A G env fns t nx d) (m:Nod) :
 ∀ (k:Tf) (p:Nat) (rest:List Nod) (acc:List Val) (idx:Nat) (K:Int),t.drop p=k.flat++rest->k.wf=true->(0:Int)∉k.srt->qVT k->k.dep<=d->((idx+k.len:Nat):Int)=K->acc.length+k.len<=100000->idx+k.len<=100000->
 match evF A G k with
 |.inl e=>∃ y x,qPA (qXB nx) ((t,(p:Int),env,fns),qHD,(0:Int),m,acc,K,(idx:Int),())=some (.ret,(y,qHD,e,m,x))
 |.inr vs=>qPA (qXB nx) ((t,(p:Int),env,fns),qHD,(0:Int),m,acc,K,(idx:Int),())=some (.exit 0,((t,((p+k.size:Nat):Int),env,fns),qHD,(0:Int),m,acc++vs.map encS,K,K,())):=by
 intro k
 induction k with
 |nil=>
  intro p rest acc idx K _ _ _ _ _ hK _ _
  simp only[evF]
  simp only[len,Nat.add_zero] at hK
  refine qTA ?_ (by simp)
  unfold qXB
  simp only
  rw[qNA (by omega),hK]
  simp[size]
 |cons n k r ik ir=>
  intro p rest acc idx K hd hw hs hn hdep hK h1 h2
  obtain ⟨w1,w2,w3,w4⟩:=qSH.1 hw
  obtain ⟨s1,s2,s3⟩:=qKJ.1 hs
  simp only[dep] at hdep
  simp only[len] at hK h1 h2
  simp only[flat,qY5,qZ1] at hd
  have hsing:=hnx n k p (r.flat++rest) hd (qSH.2 ⟨w1,w2,w3,rfl⟩) (qKJ.2 ⟨s1,s2,by simp[srt]⟩) (fun x hx=>hn x (by simp only[flat,qY12,qZ7] at hx ⊢;rcases hx with h | h | h;exact .inl h;exact .inr (.inl h);cases h)) (by omega)
  have hne:∀ e,evF A G (cons n k nil)=.inl e->e≠0:=by
   intro e he
   have hgen:∀ (f:Tf) e,evF A G f=.inl e->e≠0:=by
    intro f
    induction f with
    |nil=>intro e h;simp[evF] at h
    |cons a b c ib ic=>
     intro e h
     simp only[evF] at h
     split at h
     ·rename_i e' hb
      cases h;exact ib _ hb
     ·split at h
      ·rename_i e' hv
       cases h
       unfold evN at hv
       split at hv
       ·split at hv
        ·cases hv;decide
        ·split at hv
         ·cases hv
         ·cases hv;decide
       ·split at hv
        ·exact hE.er _ _ _ hv
        ·cases hv
      ·split at h
       ·rename_i e' hc
        cases h;exact ic _ hc
       ·cases h
   exact hgen _ e he
  have hlen:p+1+k.size+r.size+rest.length=t.length:=by
   have:=congrArg List.length hd
   simp only[List.length_drop,qY11,qZ6,qNC] at this
   omega
  have hd':t.drop (p+1+k.size)=r.flat++rest:=by
   have:=congrArg (List.drop (1+k.size)) hd
   rw[List.drop_drop] at this
   have e:p+(1+k.size)=p+1+k.size:=by omega
   rw[e] at this
   rw[this,Nat.add_comm 1,List.drop_succ_cons,List.drop_append_of_le_length (by rw[qNC];omega),qY7 (by rw[qNC];omega),qY15]
  have hsplit:evF A G (cons n k r)=match evF A G (cons n k nil) with
   |.inl e=>.inl e
   |.inr us=>match evF A G r with
    |.inl e=>.inl e
    |.inr ws=>.inr (us++ws):=by
   simp only[evF]
   cases evF A G k with
   |inl e=>rfl
   |inr vs=>
    simp only
    cases evN A G n vs with
    |inl e=>rfl
    |inr v=>
     simp only
     cases evF A G r<;>rfl
  rw[hsplit]
  cases he:evF A G (cons n k nil) with
  |inl e=>
   rw[he] at hsing
   obtain ⟨y,hy⟩:=hsing
   simp only
   refine ⟨y,_,qTA (y:=(y,qHD,e,m,acc,K,(idx:Int),())) ?_ (by simp)⟩
   unfold qXB
   simp only
   rw[qIA (by omega),hy,qAA,qFE (hne e he)]
  |inr us=>
   rw[he] at hsing
   match us,hsing with
   |[v],hsing=>
    simp only at hsing ⊢
    have hgo:qXB nx ((t,(p:Int),env,fns),qHD,(0:Int),m,acc,K,(idx:Int),())=some (.normal,((t,((p+1+k.size:Nat):Int),env,fns),qHD,(0:Int),m,acc++[encS v],K,((idx+1:Nat):Int),())):=by
     unfold qXB
     simp only
     rw[qIA (by omega),hsing,qAA,qMD rfl,qBA (by simp[qCF];omega),w64 (by omega)]
     rfl
    have ihr:=ir (p+1+k.size) rest (acc++[encS v]) (idx+1) K hd' w4 s3 (fun x hx=>hn x (by simp only[flat,qY12,qZ7];exact .inr (.inr hx))) (by omega) (by omega) (by simp;omega) (by omega)
    cases hr:evF A G r with
    |inl e=>
     rw[hr] at ihr
     obtain ⟨y,x,h⟩:=ihr
     exact ⟨y,x,by rw[qAB hgo,h]⟩
    |inr ws=>
     rw[hr] at ihr
     simp only at ihr ⊢
     rw[qAB hgo,ihr]
     have e:p+1+k.size+r.size=p+(cons n k r).size:=by simp only[size];omega
     rw[e]
     simp
theorem qLao {A:qBs->Option SV} {G:Nod->List SV->Int ⊕ SV} (hE:EA A G) {env:Em} {fns:Fm} (hM:EM A G env fns) {t:List Nod} (ht:t.length<=1100) :
 ∀ d,qTan A G env fns t (qSC d) d:=by
 intro d
 induction d with
 |zero=>intro n k p rest _ _ _ _ h;omega
 |succ d ih=>
  intro n k p rest hd hw hs hn hdep
  obtain ⟨w1,w2,w3,w4⟩:=qSH.1 hw
  obtain ⟨s1,s2,s3⟩:=qKJ.1 hs
  obtain ⟨g1,g2⟩:=qKK (d:=qHF) hd
  have hnk:qVT k:=fun m hm=>hn m (by simp only[flat,qY12,qZ7];exact .inr (.inl hm))
  have hd':t.drop (p+1)=k.flat++rest:=by
   have:=congrArg (List.drop 1) hd
   rw[List.drop_drop] at this
   simpa using this
  have hlen:p+1+k.size+rest.length=t.length:=by
   have:=congrArg List.length hd
   simp only[List.length_drop,qY11,qZ6,qNC] at this
   omega
  have hkl:=qWK k
  have hkids:=qYaq hE (by omega) ih n k (p+1) rest [] 0 (k.len:Int) hd' w3 s1 hnk (by omega) (by simp) (by simp;omega) (by omega)
  have hK:n.2.2.2.2=(k.len:Int):=w2
  have hwp:qI ((p:Int)+1)=((p+1:Nat):Int):=by rw[w64 (by omega)];rfl
  have hunf:qSC (d+1) (t,(p:Int),env,fns)=qQI (qSC d) (t,(p:Int),env,fns):=rfl
  rw[hunf]
  unfold qQI
  simp only
  rw[qEA,qBA (by omega),qBA (by omega),qZ0,g1,hK,hwp]
  rw[show ((0:Nat):Int)=0 from rfl] at hkids
  simp only[evF]
  cases hk:evF A G k with
  |inl e=>
   rw[hk] at hkids
   obtain ⟨y,x,h⟩:=hkids
   simp only
   refine ⟨y,?_⟩
   have h':qPA (qXB (qSC d)) ((t,((p+1:Nat):Int),env,fns),((0:Int),false,([]:qBs),([]:List qBs),([]:List qBs)),0,n,([]:List Val),(k.len:Int),0,())=some (.ret,(y,qHD,e,n,x)):=h
   rw[h']
   simp only[qAA,qLD,qID,qOA,qWA]
  |inr vs=>
   rw[hk] at hkids
   obtain ⟨e1,e2,e3⟩:=qWB hE k w3 s1 hnk vs hk
   simp only at hkids ⊢
   have h':qPA (qXB (qSC d)) ((t,((p+1:Nat):Int),env,fns),((0:Int),false,([]:qBs),([]:List qBs),([]:List qBs)),0,n,([]:List Val),(k.len:Int),0,())=some (.exit 0,((t,((p+1+k.size:Nat):Int),env,fns),qHD,(0:Int),n,[]++vs.map encS,(k.len:Int),(k.len:Int),())):=hkids
   rw[h']
   simp only[qAA,qJB,qOA,qY15]
   have hO:n.1=nOp n:=rfl
   rw[hO]
   have hvl:vs.length=k.len:=by
    have:=congrArg List.length e1
    rw[List.length_map,qQM] at this
    exact this
   unfold evN
   by_cases h4:nOp n=4
   ·rw[qFA h4,if_pos h4]
    unfold qEK
    simp only
    have hv:=hM.var n.2.2.1
    have hA:A (qDP n)=A n.2.2.1:=rfl
    rw[hA,hv]
    cases A n.2.2.1 with
    |none=>exact ⟨_,rfl⟩
    |some v=>
     simp only[Option.map_some,Option.isSome_some,qY2,qWA,Option.getD_some,qCR]
     by_cases q:qWE v=n.2.1
     ·rw[qMD q,if_pos q]
      rfl
     ·rw[qFE q,if_neg q]
      exact ⟨_,rfl⟩
   ·rw[qDA h4,if_neg h4]
    by_cases h5:nOp n=5
    ·rw[qFA h5,if_pos h5,hM.call t _ n vs _ e3 (by omega)]
     cases G n vs with
     |inl e=>exact ⟨_,rfl⟩
     |inr v=>rfl
    ·rw[qDA h5,if_neg h5]
     obtain ⟨f1,f2⟩:=qPV.1 w1
     rw[qVp (f:=op1 k) f1 h4 h5 (by rw[hvl,<-w2];exact f2) (by rw[e1];exact s2) e2 e3 (by omega) (qUu (hn n (by simp[flat]))) (by omega)]
     rfl
open Classical in
noncomputable def decS (v:Val):Option SV:=if h:∃ s,okS s/\v=encS s then some h.choose else none
theorem qCd {v:Val} (h:qMF v=true):∃ s,decS v=some s/\okS s/\v=encS s:=by
 have h':=qXx.1 h
 refine ⟨h'.choose,?_,h'.choose_spec.1,h'.choose_spec.2⟩
 unfold decS
 rw[dif_pos h']
theorem qQag {v:Val} {s:SV} (h:decS v=some s):okS s/\v=encS s:=by
 unfold decS at h
 split at h
 ·rename_i hh
  cases h;exact hh.choose_spec
 ·cases h
theorem qVam {s:SV} (h:okS s):decS (encS s)=some s:=by
 obtain ⟨s',h1,h2,h3⟩:=qCd (qGg h)
 rw[h1,qIx h3]
structure SmallV (v:Val):Prop where
 sh:Short 73 v
 few:v.2.2.2.1.length<=75
theorem qNaj {z:Int} (h:(ti z).length<=73):Ht 75 (z:Rat):=by
 have:=D_le (z:Rat)
 exact qFu (by unfold ti at h;omega)
theorem qUaj {s:SV} (h:SmallV (encS s)):Bdd 75 s:=by
 cases s with
 |b x=>trivial
 |z n=>exact qNaj h.sh.num
 |q r=>
  have h1:(txt r).length<=73:=h.sh.num
  have:=D_le r
  exact qFu (by omega)
 |a d P=>
  have hs:=qHaw (d:=d) (P:=P) h.sh
  have hf:(ks P).length<=75:=h.few
  rw[qEE] at hf
  exact ⟨qNaj hs.num,fun p hp=>⟨qNaj (hs.els p hp).1,qNaj (hs.els p hp).2⟩,hf⟩
noncomputable def qMs (env:List qSJ) (nm:qBs):Option SV:=(env.find? fun b=>decide (b.1=nm)).bind fun b=>decS b.2
def G0:Nod->List SV->Int ⊕ SV:=fun _ _=>.inl 4
theorem qIah {env:List qSJ} (hs:∀ b∈env,SmallV b.2):EA (qMs env) G0:=by
 refine ⟨fun nm v h=>?_,fun n vs v h=>by simp[G0] at h,fun n vs e h=>by simp only[G0,Sum.inl.injEq] at h;subst h;decide⟩
 unfold qMs at h
 simp only[Option.bind_eq_some_iff] at h
 obtain ⟨b,h1,h2⟩:=h
 obtain ⟨a1,a2⟩:=qQag h2
 exact ⟨a1,qUaj (by rw[<-a2];exact hs b (List.mem_of_find?_eq_some h1))⟩
theorem qPl {env:List qSJ} (hs:∀ b∈env,SmallV b.2) (hl:env.length<=1000000000):∀ (m p:Nat) (out:Em),p+m=env.length->(∀ b∈env.take p,qMF b.2=true)->(∀ nm,qPD nm out=((env.take p).find? fun b=>decide (b.1=nm)).map (·.2))->
 ((¬ ∀ b∈env,qMF b.2=true)/\∃ x,qPA qTG (([]:Em),false,out,env,(env.length:Int),(p:Int),())=some (.ret,(([]:Em),false,x)))\/
 ((∀ b∈env,qMF b.2=true)/\∃ out' x,(∀ nm,qPD nm out'=(env.find? fun b=>decide (b.1=nm)).map (·.2))/\qPA qTG (([]:Em),false,out,env,(env.length:Int),(p:Int),())=some (.exit 0,(([]:Em),false,out',x))):=by
 intro m
 induction m with
 |zero=>
  intro p out hp hv ho
  have e:env.take p=env:=List.take_of_length_le (by omega)
  rw[e] at hv ho
  exact .inr ⟨hv,out,_,ho,qTA (by unfold qTG;simp only;rw[qNA (by omega)]) (by simp)⟩
 |succ m ih=>
  intro p out hp hv ho
  have hlt:p < env.length:=by omega
  have hg:env.getD p qXR=env[p]:=by simp[qZ4,hlt]
  have hmem:env[p]∈env:=List.getElem_mem hlt
  have htk:env.take (p+1)=env.take p++[env[p]]:=by rw[List.take_add_one,qZ5 hlt];rfl
  generalize env[p]=b at hg hmem htk
  have hvb:=qDz (N:=73) (by omega) (hs b hmem).sh
  by_cases hb:qMF b.2=false
  ·refine .inl ⟨fun h=>(by rw[h b hmem] at hb;cases hb),_,qTA (by
    unfold qTG
    simp only
    rw[qIA (by omega),qEA,qBA (by omega),qBA (by omega),qZ0,hg,hvb,qAA]
    rw[hb]
    rfl) (by simp)⟩
  rw[Bool.not_eq_false] at hb
  have hv':∀ c∈env.take (p+1),qMF c.2=true:=by
   intro c hc
   rw[htk,qZ7,qZ8] at hc
   rcases hc with hc | rfl
   ·exact hv c hc
   ·exact hb
  have hstep:∃ out',(∀ nm,qPD nm out'=((env.take (p+1)).find? fun b=>decide (b.1=nm)).map (·.2))/\qTG (([]:Em),false,out,env,(env.length:Int),(p:Int),())=some (.normal,(([]:Em),false,out',env,(env.length:Int),((p+1:Nat):Int),())):=by
   unfold qTG
   simp only
   rw[qIA (by omega),qEA,qBA (by omega),qBA (by omega),qZ0,hg,hvb,qAA,hb,w64 (by omega)]
   simp only[qY2,qWA]
   have hob:=ho b.1
   cases hlk:qPD b.1 out with
   |none=>
    simp only[Option.isSome_none,qY1,qOA]
    refine ⟨_,fun nm=>?_,rfl⟩
    rw[htk,List.find?_append]
    rw[hlk] at hob
    have hn:(env.take p).find? (fun c=>decide (c.1=b.1))=none:=by
     cases hf:(env.take p).find? (fun c=>decide (c.1=b.1)) with
     |none=>rfl
     |some c=>rw[hf] at hob;cases hob
    by_cases e:nm=b.1
    ·subst e
     rw[qCM,hn]
     simp
    ·rw[qRQ e,ho nm]
     have:[b].find? (fun c=>decide (c.1=nm))=none:=by
      rw[List.find?_eq_none]
      intro c hc
      rw[qZ8] at hc
      subst hc
      simpa using fun h=>e h.symm
     rw[this]
     cases (env.take p).find? (fun c=>decide (c.1=nm))<;>rfl
   |some v=>
    simp only[Option.isSome_some,qY2,qWA]
    refine ⟨_,fun nm=>?_,rfl⟩
    rw[htk,List.find?_append,ho nm]
    cases hf:(env.take p).find? (fun c=>decide (c.1=nm)) with
    |some c=>rfl
    |none=>
     have:[b].find? (fun c=>decide (c.1=nm))=none:=by
      rw[List.find?_eq_none]
      intro c hc
      rw[qZ8] at hc
      subst hc
      simp only[decide_eq_true_eq]
      intro h
      rw[hlk,h,hf] at hob
      cases hob
     rw[this]
     rfl
  obtain ⟨out',h1,h2⟩:=hstep
  rw[qAB h2]
  exact ih (p+1) out' (by omega) hv' h1
theorem qMn {env:List qSJ} (hs:∀ b∈env,SmallV b.2) (hl:env.length<=1000000000) :
 ((¬ ∀ b∈env,qMF b.2=true)/\qFS env=some (([],false,()),()))\/((∀ b∈env,qMF b.2=true)/\∃ out,(∀ nm,qPD nm out=(qMs env nm).map encS)/\qFS env=some ((out,true,()),())):=by
 unfold qFS
 rcases qPl hs hl env.length 0 [] (by omega) (fun b hb=>by simp at hb) (fun nm=>by simp[qPD]) with ⟨h1,x,h2⟩ | ⟨h1,out,x,h2,h3⟩
 ·rw[show ((0:Nat):Int)=0 from rfl] at h2
  rw[h2]
  simp only[qAA,qLD,qID,qOA,qWA]
  exact .inl ⟨h1,by first | rfl | trivial⟩
 ·rw[show ((0:Nat):Int)=0 from rfl] at h3
  rw[h3]
  simp only[qAA,qJB,qOA]
  refine .inr ⟨h1,out,fun nm=>?_,rfl⟩
  rw[h2]
  unfold qMs
  cases hf:env.find? (fun b=>decide (b.1=nm)) with
  |none=>rfl
  |some b=>
   obtain ⟨s,s1,s2,s3⟩:=qCd (h1 b (List.mem_of_find?_eq_some hf))
   rw[Option.map_some,Option.bind_some,s1,s3]
   rfl
open Classical in
noncomputable def qRa (t:List Nod) (env:List qSJ):Val×Int:=
 if h:(∀ b∈env,qMF b.2=true)/\∃ F,VT t F then
  (match evF (qMs env) G0 h.2.choose with
  |.inl e=>(qHD,e)
  |.inr [v]=>(encS v,0)
  |.inr _=>(qHD,1))
 else (qHD,1)
theorem qXn {t:List Nod} {env:List qSJ} {F:Tf} (hv:∀ b∈env,qMF b.2=true) (hF:VT t F):qRa t env=match evF (qMs env) G0 F with
 |.inl e=>(qHD,e)
 |.inr [v]=>(encS v,0)
 |.inr _=>(qHD,1):=by
 have h:(∀ b∈env,qMF b.2=true)/\∃ F,VT t F:=⟨hv,F,hF⟩
 unfold qRa
 rw[dif_pos h,h.2.choose_spec.uniq hF]
theorem qQU {t:List Nod} {env:List qSJ} (h:¬ ((∀ b∈env,qMF b.2=true)/\∃ F,VT t F)):qRa t env=(qHD,1):=by unfold qRa;rw[dif_neg h]
theorem qGX:qWc []=some (([],true,()),()):=by kernel_rfl
def qQk (t:List Nod):Prop:=∀ n∈t,(qAU n).length<=73
theorem qGae {B:Nat} {v:SV} (h:Bdd B v) (hB:B<=90000):qMc (encS v)=some ((encS v,()),()):=by
 cases v with
 |a d P=>have:=h.2.2;exact qMa (by simp only[encS,qEE];omega) (by simp only[encS,qRI];omega)
 |b x=>exact qMa (by simp[encS]) (by simp[encS])
 |z x=>exact qMa (by simp[encS]) (by simp[encS])
 |q x=>exact qMa (by simp[encS]) (by simp[encS])
theorem qHs {A:qBs->Option SV} {G:Nod->List SV->Int ⊕ SV} {n:Nod} {k:Tf}:(∃ e,evF A G (cons n k nil)=.inl e)\/∃ v,evF A G (cons n k nil)=.inr [v]:=by
 simp only[evF]
 cases evF A G k with
 |inl e=>exact .inl ⟨e,rfl⟩
 |inr vs=>
  simp only
  cases evN A G n vs with
  |inl e=>exact .inl ⟨e,rfl⟩
  |inr v=>exact .inr ⟨v,rfl⟩
theorem qJag {A:qBs->Option SV} {G:Nod->List SV->Int ⊕ SV} (hE:EA A G):∀ (f:Tf) e,evF A G f=.inl e->e≠0:=by
 intro f
 induction f with
 |nil=>intro e h;simp[evF] at h
 |cons a b c ib ic=>
  intro e h
  simp only[evF] at h
  split at h
  ·rename_i e' hb
   cases h;exact ib _ hb
  ·split at h
   ·rename_i e' hv
    cases h
    unfold evN at hv
    split at hv
    ·split at hv
     ·cases hv;decide
     ·split at hv
      ·cases hv
      ·cases hv;decide
    ·split at hv
     ·exact hE.er _ _ _ hv
     ·cases hv
   ·split at h
    ·rename_i e' hc
     cases h;exact ic _ hc
    ·cases h
theorem qUab {t:List Nod} {env:List qSJ} (ht:qQk t) (hl:t.length<=1100) (hs:∀ b∈env,SmallV b.2) (he:env.length<=1000000000):qFk t env []=some (((qRa t env).1,(qRa t env).2,()),()):=by
 unfold qFk
 rcases qMn hs he with ⟨h1,h2⟩ | ⟨h1,out,h2,h3⟩
 ·rw[h2,qGX,qQU fun h=>h1 h.1]
  rfl
 rw[h3,qGX]
 simp only[qAA,qY2,qWA]
 obtain ⟨b,b1,b2⟩:=qQy (t:=t) fun n hn=>by have:=ht n hn;omega
 rw[b1,qAA]
 cases b with
 |false=>rw[qQU fun h=>by have:=b2.2 h.2;cases this];rfl
 |true=>
  simp only[qY2,qWA]
  obtain ⟨F,hF⟩:=b2.1 rfl
  rw[qXn h1 hF]
  obtain ⟨n,k,rfl⟩:=hF.one
  have hE:=qIah hs
  have hM:EM (qMs env) G0 out []:=⟨h2,fun t p n vs B _ _=>rfl⟩
  have hfl:=hF.flat
  obtain ⟨d,hd1,hd2⟩:∃ d,big=d/\258<=d:=⟨big,rfl,by decide⟩
  have hdep:=hF.dep
  simp only[dep] at hdep
  have hsF:qVT (cons n k nil):=fun m hm=>ht m (by rw[<-hfl];exact hm)
  have hnx:=qLao hE hM hl d n k 0 [] (by rw[<-hfl];simp[flat]) hF.wf hF.srt hsF (by omega)
  rw[hd1]
  rw[show ((0:Nat):Int)=0 from rfl] at hnx
  rcases qHs (A:=qMs env) (G:=G0) (n:=n) (k:=k) with ⟨e,hev⟩ | ⟨v,hev⟩
  ·rw[hev] at hnx ⊢
   obtain ⟨y,hy⟩:=hnx
   rw[hy,qAA,qFE (qJag hE _ _ hev)]
  ·rw[hev] at hnx ⊢
   simp only at hnx ⊢
   rw[hnx,qAA,qMD rfl]
   obtain ⟨_,_,q3⟩:=qWB hE _ hF.wf hF.srt hsF _ hev
   have hz:(cons n k nil).size<=1100:=by rw[<-qNC,hfl];exact hl
   rw[qGae (q3.mem v (by simp)) (by omega),qAA]
end Go.AM.Num
end
section
namespace Go.AM.Num
open Tf
structure VSok (VS:List Vr):Prop where
 name:∀ v∈VS,qKj v.1=true/\1<=v.2/\v.2<=4
 once:∀ v∈VS,∀ w∈VS,v.1=w.1->v=w
structure GenF (VS:List Vr) (ss:List Int) (N d:Nat) (l:List Nod) (K:Tf):Prop where
 flat:K.flat=l
 wf:K.wf=true
 srt:K.srt=ss
 nz:(0:Int)∉ss
 sh:qQk l
 size:K.size<=N
 dep:K.dep<=d
 vars:∀ x∈l,nOp x=4->(qDP x,qHG x)∈VS
 noap:∀ x∈l,nOp x≠5
def qVQ (VS:List Vr) (ss:List Int) (N d:Nat) (l:List Nod):Prop:=∃ K,GenF VS ss N d l K
theorem qVQ.nil (VS:List Vr):qVQ VS [] 0 0 []:=⟨Tf.nil,rfl,rfl,rfl,by simp,fun _ h=>absurd h qY16,Nat.le_refl _,Nat.le_refl _,fun _ h=>absurd h qY16,fun _ h=>absurd h qY16⟩
theorem qVQ.mono {VS:List Vr} {ss:List Int} {N M d e:Nat} {l:List Nod} (h:qVQ VS ss N d l) (hN:N<=M) (hd:d<=e):qVQ VS ss M e l:=by
 obtain ⟨K,hK⟩:=h
 exact ⟨K,hK.flat,hK.wf,hK.srt,hK.nz,hK.sh,by have:=hK.size;omega,by have:=hK.dep;omega,hK.vars,hK.noap⟩
theorem qVQ.app {VS:List Vr} {ss uu:List Int} {N M d:Nat} {l m:List Nod} (h:qVQ VS ss N d l) (g:qVQ VS uu M d m):qVQ VS (ss++uu) (N+M) d (l++m):=by
 obtain ⟨K,hK⟩:=h
 obtain ⟨L,hL⟩:=g
 refine ⟨K.app L,by rw[qWV,hK.flat,hL.flat],by rw[qKo,hK.wf,hL.wf];rfl,by rw[qIc,hK.srt,hL.srt],?_,?_,?_,?_,?_,?_⟩
 ·rw[qZ7];exact fun h=>h.elim hK.nz hL.nz
 ·exact fun x hx=>(List.mem_append.1 hx).elim (hK.sh x) (hL.sh x)
 ·rw[qJf];have:=hK.size;have:=hL.size;omega
 ·rw[qNv];have:=hK.dep;have:=hL.dep;omega
 ·exact fun x hx=>(List.mem_append.1 hx).elim (hK.vars x) (hL.vars x)
 ·exact fun x hx=>(List.mem_append.1 hx).elim (hK.noap x) (hL.noap x)
theorem qMx {K:Tf} {l:List Nod} (h:K.flat=l):op1 K=(l.getD 0 qHF).1:=by
 subst h
 cases K<;>rfl
theorem qVQ.node {VS:List Vr} {ss:List Int} {N d:Nat} {l:List Nod} (h:qVQ VS ss N d l) {n:Nod} {s:Int} (hf:qRC n=true) (hc:qXA (nOp n) ss.length=true) (hk:qRF n=(ss.length:Int)) (hs:qCD n (l.getD 0 qHF).1 ss=s) (hz:s≠0)
 (hnum:(qAU n).length<=73) (hv:nOp n=4->(qDP n,qHG n)∈VS) (ha:nOp n≠5):qVQ VS [s] (N+1) (d+1) (n::l):=by
 obtain ⟨K,hK⟩:=h
 have hl:K.len=ss.length:=by rw[<-qQM,hK.srt]
 refine ⟨cons n K Tf.nil,by simp[Tf.flat,hK.flat],qSH.2 ⟨qPV.2 ⟨hf,by rw[hk];exact hc⟩,by rw[hl];exact hk,hK.wf,rfl⟩,?_,?_,?_,?_,?_,?_,?_⟩
 ·simp only[Tf.srt,hK.srt]
  rw[if_neg hK.nz,qMx hK.flat,hs]
 ·simp[Ne.symm hz]
 ·intro x hx
  rcases List.mem_cons.1 hx with rfl | hx
  ·exact hnum
  ·exact hK.sh x hx
 ·simp only[Tf.size];have:=hK.size;omega
 ·simp only[Tf.dep];have:=hK.dep;omega
 ·intro x hx
  rcases List.mem_cons.1 hx with rfl | hx
  ·exact hv
  ·exact hK.vars x hx
 ·intro x hx
  rcases List.mem_cons.1 hx with rfl | hx
  ·exact ha
  ·exact hK.noap x hx
theorem qVal {n:Nod} {k:Tf}:∀ {f:Tf},(n,k)∈f.subs->n∈f.flat:=by
 intro f
 induction f with
 |nil=>intro h;simp[subs] at h
 |cons m a b ia ib=>
  intro h
  simp only[subs,qY12,qZ7,Prod.mk.injEq] at h
  simp only[Tf.flat,qY12,qZ7]
  rcases h with ⟨rfl,_⟩ | h | h
  ·exact .inl rfl
  ·exact .inr (.inl (ia h))
  ·exact .inr (.inr (ib h))
theorem qCau {VS:List Vr} (hV:VSok VS) {s:Int} {N d:Nat} {t:List Nod} {F:Tf} (h:GenF VS [s] N d t F) (hN:N<=20000) (hd:d<=257):VT t F:=by
 refine ⟨h.flat,h.wf,by rw[h.srt];exact h.nz,by rw[<-qQM,h.srt];rfl,by have:=h.size;omega,by have:=h.dep;omega,?_⟩
 have key:∀ a∈qHr F,a.2.1=false/\a.2.2.1=[]/\(a.1,a.2.2.2)∈VS:=by
  intro a ha
  obtain ⟨⟨n,k⟩,h1,h2⟩:=List.mem_filterMap.1 ha
  have hm:n∈t:=by rw[<-h.flat];exact qVal h1
  unfold qLT at h2
  split at h2
  ·rename_i h4
   simp only[Option.some.injEq] at h2
   subst h2
   exact ⟨rfl,rfl,h.vars n hm h4⟩
  ·split at h2
   ·rename_i h5
    exact absurd h5 (h.noap n hm)
   ·cases h2
 rintro ⟨a,b,c,e⟩ ha ⟨a',b',c',e'⟩ ha' hn
 obtain ⟨p1,p2,p3⟩:=key _ ha
 obtain ⟨q1,q2,q3⟩:=key _ ha'
 simp only at p1 p2 p3 q1 q2 q3 hn
 have:=hV.once _ p3 _ q3 hn
 simp only[Prod.mk.injEq] at this
 rw[p1,p2,q1,q2,this.1,this.2]
theorem qVap {VS:List Vr} (hV:VSok VS) {nm:qBs} {s:Int} (h:(nm,s)∈VS):qVQ VS [s] 1 1 [((4:Int),s,nm,([]:qBs),(0:Int))]:=by
 obtain ⟨h1,h2,h3⟩:=hV.name _ h
 exact (qVQ.nil VS).node (by simp[nOp,qHG,qDP,qAU,qRC,h1,h2,h3]) rfl rfl (by simp[nOp,qHG,qCD]) (by simp only at h2;omega) (by simp[qAU]) (fun _=>h) (by simp[nOp])
theorem qNg {VS:List Vr} {z:Int} (h:(ti z).length<=73):qVQ VS [2] 1 1 [((3:Int),(2:Int),([]:qBs),ti z,(0:Int))]:=
 (qVQ.nil VS).node (by simp[nOp,qHG,qDP,qAU,qRC,qDZ]) rfl rfl (by simp[nOp,qHG,qCD]) (by omega) h (fun h=>by simp[nOp] at h) (by simp[nOp])
theorem qXac {VS:List Vr} {q:Rat} (h:(txt q).length<=73):qVQ VS [3] 1 1 [((3:Int),(3:Int),([]:qBs),txt q,(0:Int))]:=
 (qVQ.nil VS).node (by simp[nOp,qHG,qDP,qAU,qRC,qPK]) rfl rfl (by simp[nOp,qHG,qCD]) (by omega) h (fun h=>by simp[nOp] at h) (by simp[nOp])
theorem qVv {VS:List Vr}:qVQ VS [1] 1 1 [((1:Int),(0:Int),([]:qBs),([]:qBs),(0:Int))]:=
 (qVQ.nil VS).node (by simp[nOp,qHG,qDP,qAU,qRC]) rfl rfl (by simp[nOp,qHG,qCD]) (by omega) (by simp[qAU]) (fun h=>by simp[nOp] at h) (by simp[nOp])
theorem qWo {VS:List Vr}:qVQ VS [1] 1 1 [((2:Int),(0:Int),([]:qBs),([]:qBs),(0:Int))]:=
 (qVQ.nil VS).node (by simp[nOp,qHG,qDP,qAU,qRC]) rfl rfl (by simp[nOp,qHG,qCD]) (by omega) (by simp[qAU]) (fun h=>by simp[nOp] at h) (by simp[nOp])
def alphaB (c:UInt8):Bool:=(decide (97<=c)&&decide (c<=122))||(decide (65<=c)&&decide (c<=90))
theorem qUs (c:UInt8):qXe (c.toNat:Int)=some ((alphaB c,()),()):=by
 refine qQV (P:=fun c=>qXe (c.toNat:Int)=some ((alphaB c,()),())) ?_ c
 decide +kernel
theorem qLd (c:UInt8):letterB c=(alphaB c||c==95||c==36||c==33):=rfl
theorem qIaw (c:UInt8):decide ((c.toNat:Int) < 48)=!decide (48<=c):=by
 refine qQV (P:=fun c=>decide ((c.toNat:Int) < 48)=!decide (48<=c)) ?_ c
 decide +kernel
theorem qNaw (c:UInt8):decide ((c.toNat:Int) > 57)=!decide (c<=57):=by
 refine qQV (P:=fun c=>decide ((c.toNat:Int) > 57)=!decide (c<=57)) ?_ c
 decide +kernel
theorem qLaw (c:UInt8):((c.toNat:Int)==95)=(c==95):=by
 refine qQV (P:=fun c=>((c.toNat:Int)==95)=(c==95)) ?_ c
 decide +kernel
theorem qQav (c:UInt8):((c.toNat:Int)==36)=(c==36):=by
 refine qQV (P:=fun c=>((c.toNat:Int)==36)=(c==36)) ?_ c
 decide +kernel
theorem qSav (c:UInt8):((c.toNat:Int)==33)=(c==33):=by
 refine qQV (P:=fun c=>((c.toNat:Int)==33)=(c==33)) ?_ c
 decide +kernel
theorem qAaq {l:List qBs} {s:qBs} (hl:l.length<=1000000000):r_in l s=some ((decide (s∈l),()),()):=by
 have key:=qKI (step:=qNf) (fun k=>(l,s,false,(k:Int),())) (fun k=>(l,s,true,(k:Int),())) l.length (E:=.exit 0) (B:=.ret) (by simp) (by simp) (fun k=>!(l.getD k []==s)) (fun k hk=>by
  unfold qNf
  simp only
  rw[qIA (by omega),qEA,qBA (by omega),qBA (by omega),qZ0,w64 (x:=(k:Int)+1) (by omega)]
  cases (l.getD k []==s)<;>rfl) (by
  unfold qNf
  simp only
  rw[qNA (by omega)])
 rw[qWN l [] (fun x=>!(x==s))] at key
 rw[show ((0:Nat):Int)=0 from rfl] at key
 unfold r_in
 rcases key with ⟨k1,k2⟩ | ⟨k1,j,k2⟩
 ·rw[k2]
  simp only[qAA,qJB,qOA]
  rw[qZ9]
  intro h
  have:=List.all_eq_true.1 k1 s h
  simp at this
 ·rw[k2]
  simp only[qAA,qLD,qID,qOA,qWA]
  rw[qZ10]
  by_cases h:s∈l
  ·exact h
  ·rw[List.all_eq_true.2 (fun x hx=>by simp;exact fun e=>h (e ▸ hx))] at k1;cases k1
theorem qAo:qPc=some ((qFl,()),()):=rfl
theorem qUz {s:qBs} (h:s≠[]):(List.range s.length).all (fun k=>if k=0 then letterB (s.getD 0 0) else qTl (s.getD k 0))=(letterB (s.getD 0 0)&&s.all qTl):=by
 have hpos:0 < s.length:=List.length_pos_iff.2 h
 rw[<-qWN s 0 qTl,Bool.eq_iff_iff,qY0,qY3,qY3]
 constructor
 ·intro hh
  have h0:=hh 0 (List.mem_range.2 hpos)
  simp only[if_true] at h0
  refine ⟨h0,fun k hk=>?_⟩
  have hk':=hh k hk
  by_cases e:k=0
  ·subst e
   unfold qTl
   rw[h0];rfl
  ·rw[if_neg e] at hk';exact hk'
 ·rintro ⟨h0,hh⟩ k hk
  split
  ·exact h0
  ·exact hh k hk
theorem qEag (s:qBs):qNq s=some ((qKj s,()),()):=by
 unfold qNq
 by_cases h0:s=[]
 ·subst h0;decide
 ·rw[show (s==([]:qBs))=false by simpa using h0,qWA]
  have hpos:0 < s.length:=List.length_pos_iff.2 h0
  unfold qKj
  by_cases h1:s.length<=40
  ·rw[qNA (by omega),qZ10 h1,qAo,qAA]
   simp only
   rw[qAaq (by decide),qAA,Bool.true_and]
   cases hw:decide (s∈qFl) with
   |true=>cases letterB (s.getD 0 0)<;>rfl
   |false=>
    simp only[qWA]
    have key:=qKI (step:=qMU) (fun k=>(s,false,(k:Int),())) (fun k=>(s,false,(k:Int),())) s.length (E:=.exit 0) (B:=.ret) (by simp) (by simp) (fun k=>if k=0 then letterB (s.getD 0 0) else qTl (s.getD k 0)) (fun k hk=>by
     unfold qMU
     simp only
     rw[qIA (by omega),qEA,qBA (by omega),qBA (by omega),qZ0,qUs,qAA,qIaw,qNaw,qIau,qUat,qLaw,qQav,qSav,w64 (x:=(k:Int)+1) (by omega)]
     by_cases hk0:k=0
     ·subst hk0
      rw[if_pos rfl,qLd]
      generalize alphaB (s.getD 0 0)=a
      generalize (s.getD 0 0==95)=b
      generalize (s.getD 0 0==36)=c
      generalize (s.getD 0 0==33)=d
      cases a<;>cases b<;>cases c<;>cases d<;>rfl
     ·rw[if_neg hk0]
      unfold qTl
      rw[qLd,qDA (show (k:Int)≠0 by omega)]
      generalize alphaB (s.getD k 0)=a
      generalize (s.getD k 0==95)=b
      generalize (s.getD k 0==36)=c
      generalize (s.getD k 0==33)=d
      generalize decide (48<=s.getD k 0)=e
      generalize decide (s.getD k 0<=57)=f
      generalize (s.getD k 0==46)=g
      generalize (s.getD k 0==64)=h
      cases a<;>cases b<;>cases c<;>cases d<;>cases e<;>cases f<;>cases g<;>cases h<;>rfl) (by
     unfold qMU
     simp only
     rw[qNA (by omega)])
    rw[qUz h0] at key
    rcases key with ⟨k1,k2⟩ | ⟨k1,j,k2⟩
    ·rw[show ((0:Nat):Int)=0 from rfl] at k2
     rw[k2]
     simp only[qAA,qJB,qOA,qY1,Bool.and_true]
     rw[k1]
    ·rw[show ((0:Nat):Int)=0 from rfl] at k2
     rw[k2]
     simp only[qAA,qLD,qID,qOA,qWA,qY1,Bool.and_true]
     rw[k1]
  ·rw[qIA (by omega),qZ9 h1]
   rfl
theorem qOr (s:Int):qTe s=some ((decide (1<=s/\s<=4),()),()):=qPf s
theorem qKr {n:Nod} (h:(qAU n).length<=100000):qFf n=some ((qRC n,()),()):=by
 obtain ⟨o,s,nm,num,kd⟩:=n
 simp only[qAU] at h
 unfold qFf qRC
 simp only[nOp,qHG,qDP,qAU]
 rw[qOr,qEag,qWJ (by omega),qSa (by omega),qTR (by omega)]
 simp only[qAA,qRah]
 by_cases e3:o=3
 ·rw[qFA e3,if_pos e3]
  by_cases h2:s=2
  ·subst h2
   cases decide (nm=[])<;>cases isI num<;>rfl
  ·rw[qDA h2,qZ9 h2,Bool.false_and,Bool.false_or]
   by_cases h3:s=3
   ·subst h3;cases decide (nm=[])<;>rfl
   ·rw[qDA h3,qZ9 h3,Bool.false_and];cases decide (nm=[])<;>rfl
 ·rw[qDA e3,if_neg e3]
  by_cases e4:o=4
  ·rw[qFA e4,if_pos (.inl e4)];cases decide (1<=s/\s<=4)<;>cases qKj nm<;>cases decide (num=[])<;>rfl
  ·rw[qDA e4]
   by_cases e5:o=5
   ·rw[qFA e5,if_pos (.inr e5)];cases decide (1<=s/\s<=4)<;>cases qKj nm<;>cases decide (num=[])<;>rfl
   ·rw[qDA e5,if_neg (by omega)]
    by_cases e6:o=16
    ·rw[qFA e6,if_pos (.inl e6)]
     by_cases z:s=0
     ·rw[qFA z,qZ10 z];cases decide (nm=[])<;>cases isI num<;>rfl
     ·rw[qDA z,qZ9 z];rfl
    ·rw[qDA e6]
     by_cases e7:o=17
     ·rw[qFA e7,if_pos (.inr e7)]
      by_cases z:s=0
      ·rw[qFA z,qZ10 z];cases decide (nm=[])<;>cases isI num<;>rfl
      ·rw[qDA z,qZ9 z];rfl
     ·rw[qDA e7,if_neg (by omega)]
      by_cases g1:o>=1
      ·rw[qIA g1]
       by_cases g2:o<=20
       ·rw[qIA g2,qZ10 (show 1<=o/\o<=20 from ⟨g1,g2⟩)]
        by_cases z:s=0
        ·rw[qFA z,qZ10 z];cases decide (nm=[])<;>rfl
        ·rw[qDA z,qZ9 z];rfl
       ·rw[qNA g2,qZ9 (by omega)];rfl
      ·rw[qNA g1,qZ9 (by omega)];rfl
theorem qGab (o k:Int):qQi o k=some ((qXA o k,()),()):=by
 by_cases h1:o=1;· subst h1;rfl
 by_cases h2:o=2;· subst h2;rfl
 by_cases h3:o=3;· subst h3;rfl
 by_cases h4:o=4;· subst h4;rfl
 by_cases h5:o=5
 ·subst h5
  have e:qXA 5 k=decide (1<=k/\k<=40):=rfl
  rw[e]
  unfold qQi
  rw[qDA (by decide),qDA (by decide),qDA (by decide),qDA (by decide),qFA rfl]
  by_cases g:k>=1
  ·rw[qIA g]
   have:decide (k<=40)=decide (1<=k/\k<=40):=by rw[decide_eq_decide];omega
   rw[this]
  ·rw[qNA g,qZ9 (by omega)]
 by_cases h6:o=6;· subst h6;rfl
 by_cases h16:o=16;· subst h16;rfl
 by_cases h17:o=17;· subst h17;rfl
 by_cases h20:o=20;· subst h20;rfl
 by_cases h7:o=7;· subst h7;rfl
 by_cases h8:o=8;· subst h8;rfl
 by_cases h10:o=10;· subst h10;rfl
 by_cases h19:o=19;· subst h19;rfl
 by_cases h14:o=14;· subst h14;rfl
 unfold qQi qXA
 rw[qDA h1,qDA h2,qDA h3,qDA h4,qDA h5,qDA h6,qDA h16,qDA h17,qDA h20,qDA h7,qDA h8,qDA h10,qDA h19,qDA h14,
  if_neg (by omega),if_neg h5,if_neg (by omega),if_neg (by omega),if_neg h14,if_neg (by omega)]
 rfl
theorem qOai {ss:List Int} {s out:Int} (hl:ss.length<=1000000000):qCQ ss s out=some ((if ∀ x∈ss,x=s then out else 0,()),()):=by
 have key:=qKI (step:=qCV) (fun k=>(ss,s,out,(0:Int),(k:Int),())) (fun k=>(ss,s,out,(0:Int),(k:Int),())) ss.length (E:=.exit 0) (B:=.ret) (by simp) (by simp) (fun k=>decide (ss.getD k 0=s)) (fun k hk=>by
  unfold qCV
  simp only
  rw[qIA (by omega),qEA,qBA (by omega),qBA (by omega),qZ0,w64 (x:=(k:Int)+1) (by omega)]
  by_cases h:ss.getD k 0=s
  ·rw[qMD h,if_pos (qZ10 h)];rfl
  ·rw[qFE h,if_neg (fun e=>h (of_decide_eq_true e))]) (by
  unfold qCV
  simp only
  rw[qNA (by omega)])
 rw[qWN ss 0 (fun x=>decide (x=s))] at key
 rw[show ((0:Nat):Int)=0 from rfl] at key
 unfold qCQ
 rcases key with ⟨k1,k2⟩ | ⟨k1,j,k2⟩
 ·rw[k2]
  simp only[qAA,qJB,qOA]
  rw[if_pos (by simpa [qY3] using k1)]
 ·rw[k2]
  simp only[qAA,qLD,qID,qOA,qWA]
  rw[if_neg (fun h=>by rw[List.all_eq_true.2 (fun x hx=>qZ10 (h x hx))] at k1;cases k1)]
theorem qKh {n:Nod} {f:Int} {ss:List Int} (ho:1<=nOp n/\nOp n<=20) (hl:ss.length<=1000000000) (hc:qXA (nOp n) ss.length=true) (h15:nOp n=15->f=3->ss.getD 0 0=2\/ss.getD 0 0=3):qLZ n f ss=some ((qCD n f ss,()),()):=by
 obtain ⟨o,s,nm,num,kd⟩:=n
 simp only[nOp] at ho hc h15
 have hnum:∀ s,qIU s=some ((decide (s=2\/s=3),()),()):=qCe
 unfold qLZ qCD
 simp only[nOp,qHG,qOai hl,hnum,qAA,show (0:Int).toNat=0 from rfl,show (1:Int).toNat=1 from rfl,show (2:Int).toNat=2 from rfl]
 by_cases h1:o=1
 ·subst h1
  rcases ss with _ | ⟨a,l⟩<;>simp[qXA] at hc
  ·simp
  ·omega
 rw[qDA h1]
 by_cases h2:o=2
 ·subst h2
  rcases ss with _ | ⟨a,l⟩<;>simp[qXA] at hc
  ·simp
  ·omega
 rw[qDA h2]
 by_cases h3:o=3;· rw[qFA h3,if_pos (.inl h3)]
 rw[qDA h3]
 by_cases h4:o=4;· rw[qFA h4,if_pos (.inr (.inl h4))]
 rw[qDA h4]
 by_cases h5:o=5;· rw[qFA h5,if_pos (.inr (.inr h5))]
 rw[qDA h5,if_neg (show ¬ (o=3\/o=4\/o=5) by omega)]
 by_cases h6:o=6;· rw[qFA h6,if_pos (show o=1\/o=2\/o=6\/o=7\/o=8\/o=9 by omega)]
 rw[qDA h6]
 by_cases h7:o=7;· rw[qFA h7,if_pos (show o=1\/o=2\/o=6\/o=7\/o=8\/o=9 by omega)]
 rw[qDA h7]
 by_cases h8:o=8;· rw[qFA h8,if_pos (show o=1\/o=2\/o=6\/o=7\/o=8\/o=9 by omega)]
 rw[qDA h8]
 by_cases h9:o=9;· rw[qFA h9,if_pos (show o=1\/o=2\/o=6\/o=7\/o=8\/o=9 by omega)]
 rw[qDA h9,if_neg (show ¬ (o=1\/o=2\/o=6\/o=7\/o=8\/o=9) by omega)]
 by_cases h10:o=10
 ·subst h10
  rcases ss with _ | ⟨a,_ | ⟨b,_ | ⟨c,_ | ⟨d,l⟩⟩⟩⟩<;>simp[qXA] at hc
  ·by_cases q:a=1
   ·by_cases q2:b=c
    ·simp[grd,q,q2]
    ·simp[grd,q,q2,show (b==c)=false by simpa using q2]
   ·simp[grd,q,show (a==1)=false by simpa using q]
  ·omega
 rw[qDA h10,if_neg h10]
 by_cases h11:o=11
 ·subst h11
  rcases ss with _ | ⟨a,_ | ⟨b,_ | ⟨c,l⟩⟩⟩<;>simp[qXA] at hc
  ·by_cases q:b=a
   ·simp[grd,q]
   ·simp[grd,q]
    exact fun e=>q e.symm
  ·omega
 rw[qDA h11,if_neg h11]
 by_cases h12:o=12
 ·subst h12
  rcases ss with _ | ⟨a,_ | ⟨b,_ | ⟨c,l⟩⟩⟩<;>simp[qXA] at hc
  ·by_cases q:a=2\/a=3<;>simp[grd,q]
  ·omega
 rw[qDA h12]
 by_cases h13:o=13
 ·subst h13
  rcases ss with _ | ⟨a,_ | ⟨b,_ | ⟨c,l⟩⟩⟩<;>simp[qXA] at hc
  ·by_cases q:a=2\/a=3<;>simp[grd,q]
  ·omega
 rw[qDA h13,if_neg (show ¬ (o=12\/o=13) by omega)]
 by_cases h14:o=14
 ·subst h14
  rcases ss with _ | ⟨a,l⟩<;>simp[qXA] at hc
  by_cases q:a=2\/a=3<;>simp[grd,q]
 rw[qDA h14,if_neg h14]
 by_cases h15':o=15
 ·subst h15'
  have h15:=h15 rfl
  rcases ss with _ | ⟨a,_ | ⟨b,_ | ⟨c,l⟩⟩⟩<;>simp[qXA] at hc
  ·by_cases q:f=3
   ·have:=h15 q
    simp at this
    simp[grd,q,this]
   ·simp[q,show (f==3)=false by simpa using q]
  ·omega
 rw[qDA h15',if_neg h15']
 by_cases h16:o=16
 ·subst h16
  rcases ss with _ | ⟨a,_ | ⟨b,l⟩⟩<;>simp[qXA] at hc
  ·simp
  ·omega
 rw[qDA h16]
 by_cases h17:o=17
 ·subst h17
  rcases ss with _ | ⟨a,_ | ⟨b,l⟩⟩<;>simp[qXA] at hc
  ·simp
  ·omega
 rw[qDA h17,if_neg (show ¬ (o=16\/o=17) by omega)]
 by_cases h20:o=20
 ·subst h20
  rcases ss with _ | ⟨a,_ | ⟨b,l⟩⟩<;>simp[qXA] at hc
  ·simp
  ·omega
 rw[qDA h20]
 by_cases h18:o=18
 ·subst h18
  rcases ss with _ | ⟨a,_ | ⟨b,_ | ⟨c,l⟩⟩⟩<;>simp[qXA] at hc
  ·by_cases q:a=4
   ·by_cases q2:b=2
    ·simp[grd,q,q2]
    ·simp[grd,q,q2,show (b==2)=false by simpa using q2]
   ·simp[grd,q,show (a==4)=false by simpa using q]
  ·omega
 rw[qDA h18,if_neg h18]
 obtain rfl:o=19:=by omega
 rcases ss with _ | ⟨a,_ | ⟨b,_ | ⟨c,_ | ⟨d,l⟩⟩⟩⟩<;>simp[qXA] at hc
 ·by_cases q:a=4
  ·by_cases q2:b=2
   ·by_cases q3:c=2
    ·simp[grd,q,q2,q3]
    ·simp[grd,q,q2,q3,show (c==2)=false by simpa using q3]
   ·simp[grd,q,q2,show (b==2)=false by simpa using q2]
  ·simp[grd,q,show (a==4)=false by simpa using q]
 ·omega
theorem qUq {n:Nod} (h:qRC n=true):1<=nOp n/\nOp n<=20:=by
 unfold qRC at h
 split at h
 ·omega
 ·split at h
  ·omega
  ·split at h
   ·omega
   ·simp only[qY0,decide_eq_true_eq] at h
    exact h.1.1.1
theorem qCu {n:Nod} (h:qRC n=true) (ho:nOp n=3\/nOp n=4\/nOp n=5):1<=qHG n/\qHG n<=4:=by
 unfold qRC at h
 split at h
 ·simp only[qY0,Bool.or_eq_true,decide_eq_true_eq] at h
  rcases h.2 with h | h<;>omega
 ·rw[if_pos (by omega)] at h
  simp only[qY0,decide_eq_true_eq] at h
  exact h.1.1
theorem qMaa {ss:List Int} (h:∀ s∈ss,0<=s/\s<=4) (i:Nat):0<=ss.getD i 0/\ss.getD i 0<=4:=by
 rw[qZ4]
 cases hi:ss[i]? with
 |none=>simp
 |some s=>exact h s (qY14 hi)
theorem qHv {n:Nod} {f:Int} {ss:List Int} (hf:qRC n=true) (h:∀ s∈ss,0<=s/\s<=4):0<=qCD n f ss/\qCD n f ss<=4:=by
 have g:=qMaa h
 have g0:=g 0
 have g1:=g 1
 unfold qCD
 by_cases c0:nOp n=3\/nOp n=4\/nOp n=5
 ·rw[if_pos c0];have:=qCu hf c0;omega
 rw[if_neg c0]
 by_cases c1:nOp n=1\/nOp n=2\/nOp n=6\/nOp n=7\/nOp n=8\/nOp n=9
 ·rw[if_pos c1];split<;>omega
 rw[if_neg c1]
 by_cases c2:nOp n=10
 ·rw[if_pos c2];split<;>omega
 rw[if_neg c2]
 by_cases c3:nOp n=11
 ·rw[if_pos c3];split<;>omega
 rw[if_neg c3]
 by_cases c4:nOp n=12\/nOp n=13
 ·rw[if_pos c4];split<;>omega
 rw[if_neg c4]
 by_cases c5:nOp n=14
 ·rw[if_pos c5];split<;>omega
 rw[if_neg c5]
 by_cases c6:nOp n=15
 ·rw[if_pos c6];split<;>omega
 rw[if_neg c6]
 by_cases c7:nOp n=16\/nOp n=17
 ·rw[if_pos c7];split<;>omega
 rw[if_neg c7]
 by_cases c8:nOp n=18
 ·rw[if_pos c8];split<;>omega
 rw[if_neg c8]
 by_cases c9:nOp n=19
 ·rw[if_pos c9];split<;>omega
 rw[if_neg c9]
 by_cases c10:nOp n=20
 ·rw[if_pos c10];split<;>omega
 rw[if_neg c10];omega
theorem qOp:∀ (f:Tf),f.wf=true->∀ s∈f.srt,0<=s/\s<=4:=by
 intro f
 induction f with
 |nil=>intro _ s hs;simp[srt] at hs
 |cons n k r ik ir=>
  intro hw s hs
  obtain ⟨w1,w2,w3,w4⟩:=qSH.1 hw
  simp only[srt,qY12] at hs
  rcases hs with rfl | hs
  ·split
   ·omega
   ·exact qHv (qPV.1 w1).1 (ik w3)
  ·exact ir w4 s hs
noncomputable def qKY (d L:Nat) (l:List Nod):Int×Int:=match one d l with
 |none=>(-1,0)
 |some (T,l')=>((L:Int) - (l'.length:Int),T.srt.getD 0 0)
abbrev TrF:=List Nod->Int->Int->Option ((Int×Int×Unit)×Unit)
def qYan (t:List Nod) (tr:TrF) (dp:Nat):Prop:=∀ i:Nat,tr t (i:Int) (dp:Int)=some (((qKY (257 - dp) t.length (t.drop i)).1,(qKY (257 - dp) t.length (t.drop i)).2,()),())
theorem qAad {d:Nat} {l l':List Nod} {T:Tf} (h:one d l=some (T,l')):T.size+l'.length=l.length/\T.srt.length=1:=by
 obtain ⟨h1,h2,h3,h4⟩:=qQY d h
 have:=congrArg List.length h1
 rw[qZ6,qNC] at this
 exact ⟨this.symm,by rw[qQM,h3]⟩
theorem qGw {d i:Nat} {t l':List Nod} {T:Tf} (h:one d (t.drop i)=some (T,l')) (hi:i<=t.length):t.drop (i+T.size)=l'/\i+T.size<=t.length/\(t.length:Int) - (l'.length:Int)=((i+T.size:Nat):Int):=by
 obtain ⟨h1,_,_,_⟩:=qQY d h
 have h2:=(qAad h).1
 rw[List.length_drop] at h2
 refine ⟨?_,by omega,by omega⟩
 rw[<-List.drop_drop,h1,List.drop_append_of_le_length (by rw[qNC];omega),qY7 (by rw[qNC];omega),qY15]
theorem qEai {t:List Nod} (ht:t.length<=20000) {tr:TrF} {dp:Nat} (hdp:dp<=256) (htr:qYan t tr (dp+1)) {i:Nat} (hi:i < t.length) {K:Int} (hK:(t.getD i qHF).2.2.2.2=K) :
 ∀ (c:Nat) (e k:Nat) (s:List Int) (good:Bool),e<=t.length->((k+c:Nat):Int)=K->s.length=k->k+c<=20000->
 match many (one (257 - (dp+1))) c (t.drop e) with
 |none=>∃ y,qPA (qVN tr) (t,(i:Int),(dp:Int),0,0,s,(e:Int),good,(k:Int),())=some (.ret,(t,(i:Int),(dp:Int),-1,0,y))
 |some (F,l')=>qPA (qVN tr) (t,(i:Int),(dp:Int),0,0,s,(e:Int),good,(k:Int),())=some (.exit 0,(t,(i:Int),(dp:Int),0,0,s++F.srt,(t.length:Int) - (l'.length:Int),good&&F.srt.all (fun x=>decide (x > 0)),K,())):=by
 intro c
 induction c with
 |zero=>
  intro e k s good he hk _ _
  simp only[many]
  refine qTA ?_ (by simp)
  unfold qVN
  simp only
  rw[qEA,qBA (by omega),qBA (by omega),qZ0,hK,qNA (by omega)]
  have e1:(t.length:Int) - ((t.drop e).length:Int)=(e:Int):=by rw[List.length_drop];omega
  have e2:K=(k:Int):=by omega
  rw[e1,e2]
  simp[srt]
 |succ c ih=>
  intro e k s good he hk hs hb
  have hcall:=htr e
  simp only[many]
  have hstep0:qVN tr (t,(i:Int),(dp:Int),0,0,s,(e:Int),good,(k:Int),())=(tr t (e:Int) (qI ((dp:Int)+1))).bind fun r1=>
   cond (decide (r1.1.1 < (0:Int))) (some (Ex.ret,(t,(i:Int),(dp:Int),-1,0,s,r1.1.1,good,(k:Int),())))
    (cond good (grd (decide (s.length+([r1.1.2.1]:List Int).length<=qCF)) (some (Ex.normal,(t,(i:Int),(dp:Int),0,0,s++([r1.1.2.1]:List Int),r1.1.1,decide (r1.1.2.1 > (0:Int)),qI ((k:Int)+(1:Int)),()))))
    (grd (decide (s.length+([r1.1.2.1]:List Int).length<=qCF)) (some (Ex.normal,(t,(i:Int),(dp:Int),0,0,s++([r1.1.2.1]:List Int),r1.1.1,false,qI ((k:Int)+(1:Int)),()))))):=by
   unfold qVN
   simp only
   rw[qEA,qBA (by omega),qBA (by omega),qZ0,hK,qIA (by omega)]
  have hwd:qI ((dp:Int)+1)=((dp+1:Nat):Int):=by rw[w64 (by omega)];rfl
  rw[hwd] at hstep0
  cases ho:one (257 - (dp+1)) (t.drop e) with
  |none=>
   have hcall':tr t (e:Int) ((dp+1:Nat):Int)=some ((-1,0,()),()):=by rw[hcall];unfold qKY;rw[ho]
   rw[hcall',qAA] at hstep0
   rw[qIA (show (-1:Int) < 0 by omega)] at hstep0
   simp only[Option.bind_none]
   exact ⟨_,qTA hstep0 (by simp)⟩
  |some x=>
   obtain ⟨T,l1⟩:=x
   obtain ⟨q1,q2⟩:=qAad ho
   obtain ⟨d1,d2,d3⟩:=qGw ho he
   obtain ⟨x,hx⟩:∃ x,T.srt=[x]:=by
    match h:T.srt,q2 with
    |[x],_=>exact ⟨x,rfl⟩
   have hcall':tr t (e:Int) ((dp+1:Nat):Int)=some ((((e+T.size:Nat):Int),x,()),()):=by
    rw[hcall];unfold qKY;rw[ho];simp only;rw[hx,d3];rfl
   rw[hcall',qAA] at hstep0
   rw[qNA (show ¬ ((e+T.size:Nat):Int) < 0 by omega)] at hstep0
   have hlen:s.length+1<=qCF:=by simp only[qCF];omega
   have hgo:qVN tr (t,(i:Int),(dp:Int),0,0,s,(e:Int),good,(k:Int),())=some (.normal,(t,(i:Int),(dp:Int),0,0,s++[x],((e+T.size:Nat):Int),good&&decide (x > 0),((k+1:Nat):Int),())):=by
    rw[hstep0,w64 (x:=(k:Int)+1) (by omega)]
    cases good
    ·simp only[qWA,Bool.false_and];rw[qBA (by simpa using hlen)];rfl
    ·simp only[qOA,Bool.true_and];rw[qBA (by simpa using hlen)];rfl
   have ih':=ih (e+T.size) (k+1) (s++[x]) (good&&decide (x > 0)) d2 (by omega) (by simp[hs]) (by omega)
   simp only[Option.bind_some]
   rw[d1] at ih'
   cases hm:many (one (257 - (dp+1))) c l1 with
   |none=>
    rw[hm] at ih'
    obtain ⟨y,hy⟩:=ih'
    simp only[Option.bind_none]
    exact ⟨y,by rw[qAB hgo,hy]⟩
   |some z=>
    obtain ⟨F,l'⟩:=z
    rw[hm] at ih'
    simp only[Option.bind_some] at ih' ⊢
    rw[qAB hgo,ih',qIc,hx]
    simp[Bool.and_assoc]
theorem qVaj {f:Tf} (hw:f.wf=true):f.srt.all (fun x=>decide (x > 0))=!decide (0∈f.srt):=by
 have h:=qOp f hw
 generalize f.srt=l at h
 induction l with
 |nil=>rfl
 |cons a l ih=>
  have ha:=h a (by simp)
  rw[List.all_cons,ih fun s hs=>h s (by simp[hs])]
  by_cases h0:a=0
  ·subst h0;simp
  ·rw[qZ10 (show a > 0 by omega)]
   have:(0:Int)∈a::l ↔ 0∈l:=by simp;omega
   simp only[this,Bool.true_and]
theorem qLai {t:List Nod} (hs:qAS t) (ht:t.length<=20000):∀ (f dp:Nat),dp<=257->258<=f+dp->qYan t (qIa f) dp:=by
 intro f
 induction f with
 |zero=>intro dp h1 h2;omega
 |succ f ih=>
  intro dp h1 h2 i
  have hunf:qIa (f+1) t (i:Int) (dp:Int)=qEf (qIa f) t (i:Int) (dp:Int):=rfl
  rw[hunf]
  unfold qEf
  by_cases hi:i>=t.length
  ·rw[qIA (by omega)]
   unfold qKY
   have e:t.drop i=[]:=qY7 hi
   rw[e]
   cases h:257 - dp<;>rfl
  rw[qNA (by omega)]
  by_cases hd:dp=257
  ·rw[qIA (by omega)]
   unfold qKY
   have e:257 - dp=0:=by omega
   rw[e]
   rfl
  rw[qNA (by omega)]
  have hi':i < t.length:=by omega
  have hget:t.getD i qHF=t[i]:=by simp[qZ4,hi']
  have hdrop:=qY6 hi'
  have hnum:=hs _ (List.getElem_mem hi')
  have hd1:257 - dp=(257 - (dp+1))+1:=by omega
  have hone:one (257 - dp) (t.drop i)=if okN t[i]=true then (many (one (257 - (dp+1))) (qRF t[i]).toNat (t.drop (i+1))).bind fun x=>some (cons t[i] x.1 nil,x.2) else none:=by rw[hd1,hdrop];rfl
  generalize t[i]=n at hget hnum hone
  have hg:∀ (k:Option ((Int×Int×Unit)×Unit)),grd (decide (0<=(i:Int))&&decide ((i:Int) < (t.length:Int))) k=k:=fun k=>by rw[qEA,qBA (by omega),qBA (by omega)]
  rw[hg,qZ0,hget,qKr (by omega),qAA]
  have hno:okN n=false->qKY (257 - dp) t.length (t.drop i)=(-1,0):=fun h=>by
   unfold qKY
   rw[hone,if_neg (by rw[h];decide)]
  by_cases q3:qRC n=false
  ·rw[q3,hno (by unfold okN;rw[q3];rfl)];rfl
  rw[Bool.not_eq_false] at q3
  rw[q3]
  simp only[qY2,qWA]
  rw[hg,hg,qGab,qAA]
  by_cases q4:qXA n.1 n.2.2.2.2=false
  ·rw[q4,hno (by unfold okN;rw[q4,Bool.and_false])];rfl
  rw[Bool.not_eq_false] at q4
  rw[q4]
  simp only[qY2,qWA]
  rw[hg]
  have hok:okN n=true:=qPV.2 ⟨q3,q4⟩
  rw[if_pos hok] at hone
  have hk0:=qIR q4
  have hK:n.2.2.2.2=qRF n:=rfl
  rw[hK] at hk0 ⊢
  have hbound:∀ F l',many (one (257 - (dp+1))) (qRF n).toNat (t.drop (i+1))=some (F,l')->F.len=(qRF n).toNat/\F.wf=true/\t.drop (i+1)=F.flat++l'/\F.size+l'.length=t.length - (i+1):=by
   intro F l' hm
   obtain ⟨m1,m2,m3,m4⟩:=qTk (qQY _) _ hm
   have:=congrArg List.length m1
   rw[qZ6,qNC,List.length_drop] at this
   exact ⟨m3,m2,m1,this.symm⟩
  by_cases q5:qRF n > (t.length:Int)
  ·rw[qIA q5]
   have hm:many (one (257 - (dp+1))) (qRF n).toNat (t.drop (i+1))=none:=by
    cases hm:many (one (257 - (dp+1))) (qRF n).toNat (t.drop (i+1)) with
    |none=>rfl
    |some x=>
     obtain ⟨F,l'⟩:=x
     obtain ⟨b1,b2,b3,b4⟩:=hbound F l' hm
     have:=qWK F
     omega
   unfold qKY
   rw[hone,hm]
   rfl
  rw[qNA q5]
  have hwi:qI ((i:Int)+1)=((i+1:Nat):Int):=by rw[w64 (by omega)];rfl
  have hl:=qEai ht (dp:=dp) (by omega) (ih (dp+1) (by omega) (by omega)) hi' (K:=qRF n) (by rw[hget]) (qRF n).toNat (i+1) 0 [] true (by omega) (by omega) rfl (by omega)
  rw[show ((0:Nat):Int)=0 from rfl] at hl
  rw[hwi]
  cases hm:many (one (257 - (dp+1))) (qRF n).toNat (t.drop (i+1)) with
  |none=>
   rw[hm] at hl hone
   obtain ⟨y,hy⟩:=hl
   rw[hy]
   simp only[qAA,qLD,qID,qOA,qWA]
   unfold qKY
   rw[hone]
   rfl
  |some x=>
   obtain ⟨F,l'⟩:=x
   obtain ⟨b1,b2,b3,b4⟩:=hbound F l' hm
   rw[hm] at hl hone
   simp only at hl
   rw[hl]
   simp only[qAA,qJB,qOA,qY15,Bool.true_and]
   rw[qVaj b2]
   simp only[Option.bind_some] at hone
   have htree:qKY (257 - dp) t.length (t.drop i)=((t.length:Int) - (l'.length:Int),if 0∈F.srt then 0 else qCD n (op1 F) F.srt):=by
    unfold qKY
    rw[hone]
    rfl
   rw[htree]
   by_cases h0:(0:Int)∈F.srt
   ·rw[qZ10 h0,if_pos h0];rfl
   rw[qZ9 h0,if_neg h0]
   simp only[qY1,qY2,qWA]
   have hop:=qUq q3
   have hcl:qXA (nOp n) (F.srt.length:Int)=true:=by
    have e:(F.srt.length:Int)=qRF n:=by rw[qQM,b1];omega
    rw[e];exact q4
   have hsl:F.srt.length<=1000000000:=by rw[qQM];have:=qWK F;omega
   cases F with
   |nil=>
    rw[qNA (by simp[srt]),hg,qZ0,hget,qKh (f:=0) hop hsl hcl (fun _ h=>by omega),qAA]
    rfl
   |cons n1 k1 r1=>
    have hb:t.drop (i+1)=n1::(k1.flat++r1.flat++l'):=by rw[b3];simp[flat]
    obtain ⟨g1,g2⟩:=qKK (d:=qHF) hb
    obtain ⟨w1,w2,w3,w4⟩:=qSH.1 b2
    obtain ⟨s1,s2,s3⟩:=qKJ.1 h0
    rw[qIA (by simp[srt]),hwi,qEA,qBA (by omega),qBA (by omega),hg,qZ0,qZ0,hget,g1]
    rw[qKh (f:=n1.1) hop hsl hcl (fun _ h=>by
     have hsrt:(cons n1 k1 r1).srt.getD 0 0=qCD n1 (op1 k1) k1.srt:=by
      simp only[srt,qZ3]
      rw[if_neg s1]
     rw[hsrt]
     have h3:nOp n1=3:=h
     have:qCD n1 (op1 k1) k1.srt=qHG n1:=by unfold qCD;rw[if_pos (.inl h3)]
     rw[this]
     exact (qNs (qPV.1 w1).1 h3).1),qAA]
    rfl
theorem qFw:∃ f,big=f/\258<=f:=⟨big,rfl,by decide⟩
theorem qHaj {t rest:List Nod} {at':Nat} {n:Nod} {k r:Tf} (hd:t.drop at'=(cons n k r).flat++rest) (hw:(cons n k r).wf=true) (hdep:(cons n k r).dep<=257):one 257 (t.drop at')=some (cons n k nil,r.flat++rest):=by
 obtain ⟨w1,w2,w3,w4⟩:=qSH.1 hw
 have e:(cons n k r).flat++rest=(cons n k nil).flat++(r.flat++rest):=by simp[flat]
 rw[hd,e]
 exact qOv _ (qSH.2 ⟨w1,w2,w3,rfl⟩) rfl (by simp only[dep] at hdep ⊢;omega)
theorem qGao {t:List Nod} (hs:qAS t) (ht:t.length<=20000) {p:Nat} (hp:p < t.length) {K:Int} (hK:(t.getD p qHF).2.2.2.2=K):∀ (r:Tf) (at':Nat) (rest:List Nod) (out:List Int) (idx:Nat),t.drop at'=r.flat++rest->r.wf=true->r.dep<=257->((idx+r.len:Nat):Int)=K->idx+r.len<=20000->out.length=idx->
 ∃ y,qPA qIH (t,(p:Int),out,(at':Int),(idx:Int),())=some (.exit 0,(t,(p:Int),out++r.srt,y)):=by
 intro r
 induction r with
 |nil=>
  intro at' rest out idx _ _ _ hk _ _
  simp only[len,Nat.add_zero] at hk
  refine ⟨_,qTA (y:=(t,(p:Int),out++[],(at':Int),(idx:Int),())) ?_ (by simp)⟩
  unfold qIH
  simp only
  rw[qEA,qBA (by omega),qBA (by omega),qZ0,hK,qNA (by omega),qY4]
 |cons n k r _ ir=>
  intro at' rest out idx hd hw hdep hk hb ho
  obtain ⟨w1,w2,w3,w4⟩:=qSH.1 hw
  have hone:=qHaj hd hw hdep
  obtain ⟨f,hf1,hf2⟩:=qFw
  have htr:=qLai hs ht f 0 (by omega) (by omega) at'
  rw[show ((0:Nat):Int)=0 from rfl] at htr
  have hat:at'<=t.length:=by
   rcases Nat.lt_or_ge t.length at' with h | h
   ·rw[qY7 (by omega)] at hd
    simp[flat] at hd
   ·exact h
  obtain ⟨d1,d2,d3⟩:=qGw hone hat
  have hts:qKY (257 - 0) t.length (t.drop at')=(((at'+(cons n k nil).size:Nat):Int),(cons n k nil).srt.getD 0 0):=by
   unfold qKY
   rw[show 257 - 0=257 from rfl,hone]
   simp only
   rw[d3]
  rw[hts] at htr
  simp only[len] at hk hb
  have hgo:qIH (t,(p:Int),out,(at':Int),(idx:Int),())=some (.normal,(t,(p:Int),out++[(cons n k nil).srt.getD 0 0],((at'+(cons n k nil).size:Nat):Int),((idx+1:Nat):Int),())):=by
   unfold qIH
   simp only
   rw[qEA,qBA (by omega),qBA (by omega),qZ0,hK,qIA (by omega),hf1,htr,qAA,qBA (by simp[qCF];omega),w64 (by omega)]
   rfl
  obtain ⟨y,hy⟩:=ir (at'+(cons n k nil).size) rest (out++[(cons n k nil).srt.getD 0 0]) (idx+1) d1 w4 (by simp only[dep] at hdep;omega) (by omega) (by omega) (by simp[ho])
  refine ⟨y,?_⟩
  rw[qAB hgo,hy]
  simp[srt]
theorem qZap {t:List Nod} (hs:qAS t) (ht:t.length<=20000) {p:Nat} {n:Nod} {k:Tf} {rest:List Nod} (hd:t.drop p=n::(k.flat++rest)) (hn:qRF n=(k.len:Int)) (hw:k.wf=true) (hdep:k.dep<=257) (hk:k.size<=20000):qFR t (p:Int)=some ((k.srt,()),()):=by
 obtain ⟨g1,g2⟩:=qKK (d:=qHF) hd
 have hkl:=qWK k
 have hd':t.drop (p+1)=k.flat++rest:=by
  have:=congrArg (List.drop 1) hd
  rw[List.drop_drop] at this
  simpa using this
 unfold qFR
 obtain ⟨y,hy⟩:=qGao hs ht g2 (K:=(k.len:Int)) (by rw[g1];exact hn) k (p+1) rest [] 0 hd' hw hdep (by omega) (by omega) rfl
 rw[show ((0:Nat):Int)=0 from rfl] at hy
 rw[w64 (by omega)]
 have e:(p:Int)+1=((p+1:Nat):Int):=rfl
 rw[e,hy]
 simp only[qAA,qJB,qOA,qY15]
theorem qQaf {a b:List Int} (ha:a.length<=2000000000):qGT a b=some ((decide (a=b),()),()):=by
 unfold qGT
 by_cases hl:a.length=b.length
 ·rw[qMD (by omega)]
  have:=qKI (step:=qSK) (fun k=>(a,b,false,(k:Int),())) (fun k=>(a,b,false,(k:Int),())) a.length (E:=.exit 0) (B:=.ret) (by simp) (by simp) (fun k=>decide (a.getD k 0=b.getD k 0)) (fun k hk=>by
   unfold qSK
   simp only
   rw[qIA (by omega),qEA,qBA (by omega),qBA (by omega),qEA,qBA (by omega),qBA (by omega),qZ0,w64 (by omega)]
   by_cases h:a.getD k 0=b.getD k 0
   ·rw[qMD h,if_pos (qZ10 h)];rfl
   ·rw[qFE h,if_neg (fun e=>h (of_decide_eq_true e))]) (by
   unfold qSK
   simp only
   rw[qNA (by omega)])
  rw[show ((0:Nat):Int)=0 from rfl] at this
  have heq:(List.range a.length).all (fun k=>decide (a.getD k 0=b.getD k 0))=decide (a=b):=by
   rw[Bool.eq_iff_iff,qY3,decide_eq_true_eq]
   constructor
   ·intro h
    refine List.ext_getElem hl fun k h1 h2=>?_
    have:=h k (List.mem_range.2 h1)
    simpa [qZ4,h1,h2] using this
   ·rintro rfl k _;simp
  rcases this with ⟨h1,h2⟩ | ⟨h1,k,h2⟩
  ·rw[h2,<-heq,h1];simp only[qAA,qJB,qOA]
  ·rw[h2,<-heq,h1];simp only[qAA,qLD,qID,qOA,qWA]
 ·rw[qFE (by omega),qZ9 (fun e=>hl (by rw[e]))]
abbrev Fv:=qBs×List Int×Int
structure UI (us:List Us) (vars:List Vr) (funcs:List Fv):Prop where
 w:∀ a∈us,(a.2.1=false/\a.2.2.1=[])\/a.2.1=true
 c:∀ a∈us,∀ b∈us,a.1=b.1->a.2.1=b.2.1->a=b
 v1:∀ x∈vars,(x.1,false,[],x.2)∈us
 v2:∀ nm s,(nm,false,[],s)∈us->(nm,s)∈vars
 f1:∀ x∈funcs,(x.1,true,x.2.1,x.2.2)∈us
 f2:∀ nm a s,(nm,true,a,s)∈us->(nm,a,s)∈funcs
theorem UI.nil:UI [] [] []:=⟨fun a h=>absurd h qY16,fun a h=>absurd h qY16,fun a h=>absurd h qY16,fun _ _ h=>absurd h qY16,fun a h=>absurd h qY16,fun _ _ _ h=>absurd h qY16⟩
theorem UI.again {us:List Us} {vars:List Vr} {funcs:List Fv} (h:UI us vars funcs) {u:Us} (hu:u∈us):UI (us++[u]) vars funcs:=by
 have hm:∀ a,a∈us++[u] ↔ a∈us:=fun a=>by
  rw[qZ7,qZ8]
  exact ⟨fun h=>h.elim id fun e=>e ▸ hu,.inl⟩
 exact ⟨fun a ha=>h.w a ((hm a).1 ha),fun a ha b hb=>h.c a ((hm a).1 ha) b ((hm b).1 hb),fun x hx=>(hm _).2 (h.v1 x hx),fun nm s hx=>h.v2 nm s ((hm _).1 hx),fun x hx=>(hm _).2 (h.f1 x hx),fun nm a s hx=>h.f2 nm a s ((hm _).1 hx)⟩
theorem UI.snoc_c {us:List Us} {vars:List Vr} {funcs:List Fv} (h:UI us vars funcs) {u:Us} (hu:∀ a∈us,a.1=u.1->a.2.1=u.2.1->a=u):∀ a∈us++[u],∀ b∈us++[u],a.1=b.1->a.2.1=b.2.1->a=b:=by
 intro a ha b hb e1 e2
 rcases List.mem_append.1 ha with ha1 | ha1
 ·rcases List.mem_append.1 hb with hb1 | hb1
  ·exact h.c a ha1 b hb1 e1 e2
  ·rw[qZ8] at hb1
   rw[hb1] at e1 e2 ⊢
   exact hu a ha1 e1 e2
 ·rw[qZ8] at ha1
  rw[ha1] at e1 e2 ⊢
  rcases List.mem_append.1 hb with hb1 | hb1
  ·exact (hu b hb1 e1.symm e2.symm).symm
  ·rw[qZ8] at hb1;exact hb1.symm
theorem UI.addV {us:List Us} {vars:List Vr} {funcs:List Fv} (h:UI us vars funcs) {nm:qBs} {s:Int} (hn:∀ x∈vars,x.1≠nm):UI (us++[(nm,false,[],s)]) (vars++[(nm,s)]) funcs:=by
 refine ⟨fun a ha=>?_,h.snoc_c fun a ha e1 e2=>?_,fun x hx=>?_,fun m x hx=>?_,fun x hx=>List.mem_append_left _ (h.f1 x hx),fun m a x hx=>?_⟩
 ·rcases List.mem_append.1 ha with ha | ha
  ·exact h.w a ha
  ·rw[qZ8] at ha;subst ha;exact .inl ⟨rfl,rfl⟩
 ·exfalso
  obtain ⟨m,b,l,z⟩:=a
  simp only at e1 e2
  subst e1;subst e2
  rcases h.w _ ha with ⟨_,q⟩ | q
  ·simp only at q;subst q
   exact hn _ (h.v2 _ _ ha) rfl
  ·cases q
 ·rcases List.mem_append.1 hx with hx | hx
  ·exact List.mem_append_left _ (h.v1 x hx)
  ·rw[qZ8] at hx;subst hx;simp
 ·rcases List.mem_append.1 hx with hx | hx
  ·exact List.mem_append_left _ (h.v2 m x hx)
  ·rw[qZ8] at hx;cases hx;simp
 ·rcases List.mem_append.1 hx with hx | hx
  ·exact h.f2 m a x hx
  ·rw[qZ8] at hx;cases hx
theorem UI.addF {us:List Us} {vars:List Vr} {funcs:List Fv} (h:UI us vars funcs) {nm:qBs} {l:List Int} {s:Int} (hn:∀ x∈funcs,x.1≠nm):UI (us++[(nm,true,l,s)]) vars (funcs++[(nm,l,s)]):=by
 refine ⟨fun a ha=>?_,h.snoc_c fun a ha e1 e2=>?_,fun x hx=>List.mem_append_left _ (h.v1 x hx),fun m x hx=>?_,fun x hx=>?_,fun m a x hx=>?_⟩
 ·rcases List.mem_append.1 ha with ha | ha
  ·exact h.w a ha
  ·rw[qZ8] at ha;subst ha;exact .inr rfl
 ·exfalso
  obtain ⟨m,b,l',z⟩:=a
  simp only at e1 e2
  subst e1;subst e2
  exact hn _ (h.f2 _ _ _ ha) rfl
 ·rcases List.mem_append.1 hx with hx | hx
  ·exact h.v2 m x hx
  ·rw[qZ8] at hx;cases hx
 ·rcases List.mem_append.1 hx with hx | hx
  ·exact List.mem_append_left _ (h.f1 x hx)
  ·rw[qZ8] at hx;subst hx;simp
 ·rcases List.mem_append.1 hx with hx | hx
  ·exact List.mem_append_left _ (h.f2 m a x hx)
  ·rw[qZ8] at hx;cases hx;simp
theorem qNag {t:List Nod} {vars:List Vr} {funcs:List Fv} {i:Nat} {n:Nod} (hi:i < t.length) (hn:t.getD i qHF=n) (hl:vars.length<=20000):∀ (m q:Nat) (known:Bool),q+m=vars.length->
 ((∃ x∈vars.drop q,x.1=n.2.2.1/\x.2≠n.2.1)/\∃ y,qPA qQH (t,false,vars,funcs,(i:Int),known,(q:Int),())=some (.ret,(t,false,vars,funcs,(i:Int),y)))\/
 ((∀ x∈vars.drop q,x.1=n.2.2.1->x.2=n.2.1)/\qPA qQH (t,false,vars,funcs,(i:Int),known,(q:Int),())=some (.exit 3,(t,false,vars,funcs,(i:Int),known||(vars.drop q).any (fun x=>decide (x.1=n.2.2.1)),(vars.length:Int),()))):=by
 intro m
 induction m with
 |zero=>
  intro q known hq
  have e:vars.drop q=[]:=qY7 (by omega)
  rw[e]
  refine .inr ⟨fun x hx=>absurd hx qY16,qTA ?_ (by simp)⟩
  unfold qQH
  simp only
  rw[qNA (by omega)]
  have:q=vars.length:=by omega
  rw[this]
  simp
 |succ m ih=>
  intro q known hq
  have hql:q < vars.length:=by omega
  have hd:=qY6 hql
  have hg:vars.getD q zVr=vars[q]:=by simp[qZ4,hql]
  rw[hd]
  generalize vars[q]=x at hg hd
  have hstep:qQH (t,false,vars,funcs,(i:Int),known,(q:Int),())=if x.1=n.2.2.1 then (if x.2=n.2.1 then some (.normal,(t,false,vars,funcs,(i:Int),true,((q+1:Nat):Int),())) else some (.ret,(t,false,vars,funcs,(i:Int),true,(q:Int),()))) else some (.normal,(t,false,vars,funcs,(i:Int),known,((q+1:Nat):Int),())):=by
   unfold qQH
   simp only
   rw[qIA (by omega),qEA,qBA (by omega),qBA (by omega),qZ0,qZ0,qBA hql,qEA,qBA (by omega),qBA (by omega),hg,hn,w64 (by omega)]
   by_cases h1:x.1=n.2.2.1
   ·rw[show (x.1==n.2.2.1)=true by simpa using h1,if_pos h1,qOA,qEA,qBA (by omega),qBA (by omega),qBA hql,qEA,qBA (by omega),qBA (by omega)]
    by_cases h2:x.2=n.2.1
    ·rw[qMD h2,if_pos h2];rfl
    ·rw[qFE h2,if_neg h2]
   ·rw[show (x.1==n.2.2.1)=false by simpa using h1,if_neg h1,qWA];rfl
  by_cases h1:x.1=n.2.2.1
  ·rw[if_pos h1] at hstep
   by_cases h2:x.2=n.2.1
   ·rw[if_pos h2] at hstep
    rcases ih (q+1) true (by omega) with ⟨⟨z,z1,z2⟩,y,hy⟩ | ⟨hz,hy⟩
    ·exact .inl ⟨⟨z,qY13 _ z1,z2⟩,y,by rw[qAB hstep,hy]⟩
    ·refine .inr ⟨fun z hz' e=>?_,?_⟩
     ·rcases List.mem_cons.1 hz' with rfl | hz'
      ·exact h2
      ·exact hz z hz' e
     ·rw[qAB hstep,hy,List.any_cons,qZ10 h1];simp
   ·rw[if_neg h2] at hstep
    exact .inl ⟨⟨x,by simp,h1,h2⟩,_,qTA hstep (by simp)⟩
  ·rw[if_neg h1] at hstep
   rcases ih (q+1) known (by omega) with ⟨⟨z,z1,z2⟩,y,hy⟩ | ⟨hz,hy⟩
   ·exact .inl ⟨⟨z,qY13 _ z1,z2⟩,y,by rw[qAB hstep,hy]⟩
   ·refine .inr ⟨fun z hz' e=>?_,?_⟩
    ·rcases List.mem_cons.1 hz' with rfl | hz'
     ·exact absurd e h1
     ·exact hz z hz' e
    ·rw[qAB hstep,hy,List.any_cons,qZ9 h1,Bool.false_or]
theorem qNz {t:List Nod} {vars:List Vr} {funcs:List Fv} {i:Nat} {g:Fv} (hl:funcs.length<=20000) (hfl:∀ x∈funcs,x.2.1.length<=20000):∀ (m q:Nat) (known:Bool),q+m=funcs.length->
 ((∃ x∈funcs.drop q,x.1=g.1/\x≠g)/\∃ y,qPA qTH (t,false,vars,funcs,(i:Int),g,known,(q:Int),())=some (.ret,(t,false,vars,funcs,(i:Int),y)))\/
 ((∀ x∈funcs.drop q,x.1=g.1->x=g)/\qPA qTH (t,false,vars,funcs,(i:Int),g,known,(q:Int),())=some (.exit 5,(t,false,vars,funcs,(i:Int),g,known||(funcs.drop q).any (fun x=>decide (x.1=g.1)),(funcs.length:Int),()))):=by
 intro m
 induction m with
 |zero=>
  intro q known hq
  have e:funcs.drop q=[]:=qY7 (by omega)
  rw[e]
  refine .inr ⟨fun x hx=>absurd hx qY16,qTA ?_ (by simp)⟩
  unfold qTH
  simp only
  rw[qNA (by omega)]
  have:q=funcs.length:=by omega
  rw[this]
  simp
 |succ m ih=>
  intro q known hq
  have hql:q < funcs.length:=by omega
  have hd:=qY6 hql
  have hg:funcs.getD q (([]:qBs),([]:List Int),(0:Int))=funcs[q]:=by simp[qZ4,hql]
  have hxl:=hfl _ (List.getElem_mem hql)
  rw[hd]
  generalize funcs[q]=x at hg hd hxl
  obtain ⟨xn,xa,xr⟩:=x
  obtain ⟨gn,ga,gr⟩:=g
  simp only at hxl
  have hstep:qTH (t,false,vars,funcs,(i:Int),(gn,ga,gr),known,(q:Int),())=if xn=gn then (if (xn,xa,xr)=(gn,ga,gr) then some (.normal,(t,false,vars,funcs,(i:Int),(gn,ga,gr),true,((q+1:Nat):Int),())) else some (.ret,(t,false,vars,funcs,(i:Int),(gn,ga,gr),true,(q:Int),()))) else some (.normal,(t,false,vars,funcs,(i:Int),(gn,ga,gr),known,((q+1:Nat):Int),())):=by
   unfold qTH
   simp only
   rw[qIA (by omega),qEA,qBA (by omega),qBA (by omega),qZ0,qBA hql,hg,w64 (by omega)]
   by_cases h1:xn=gn
   ·rw[show (xn==gn)=true by simpa using h1,if_pos h1,qOA,qEA,qBA (by omega),qBA (by omega),qBA hql]
    by_cases h2:xr=gr
    ·rw[qMD h2,qEA,qBA (by omega),qBA (by omega),qBA hql,qQaf (show xa.length<=2000000000 by omega),qAA]
     by_cases h3:xa=ga
     ·rw[qZ10 h3,if_pos (by rw[h1,h2,h3])];rfl
     ·rw[qZ9 h3,if_neg (fun e=>h3 (by cases e;rfl))];rfl
    ·rw[qFE h2,if_neg (fun e=>h2 (by cases e;rfl))]
   ·rw[show (xn==gn)=false by simpa using h1,if_neg h1,qWA];rfl
  by_cases h1:xn=gn
  ·rw[if_pos h1] at hstep
   by_cases h2:(xn,xa,xr)=(gn,ga,gr)
   ·rw[if_pos h2] at hstep
    rcases ih (q+1) true (by omega) with ⟨⟨z,z1,z2⟩,y,hy⟩ | ⟨hz,hy⟩
    ·exact .inl ⟨⟨z,qY13 _ z1,z2⟩,y,by rw[qAB hstep,hy]⟩
    ·refine .inr ⟨fun z hz' e=>?_,?_⟩
     ·rcases List.mem_cons.1 hz' with rfl | hz'
      ·exact h2
      ·exact hz z hz' e
     ·rw[qAB hstep,hy,List.any_cons,qZ10 h1];simp
   ·rw[if_neg h2] at hstep
    exact .inl ⟨⟨_,by simp,h1,h2⟩,_,qTA hstep (by simp)⟩
  ·rw[if_neg h1] at hstep
   rcases ih (q+1) known (by omega) with ⟨⟨z,z1,z2⟩,y,hy⟩ | ⟨hz,hy⟩
   ·exact .inl ⟨⟨z,qY13 _ z1,z2⟩,y,by rw[qAB hstep,hy]⟩
   ·refine .inr ⟨fun z hz' e=>?_,?_⟩
    ·rcases List.mem_cons.1 hz' with rfl | hz'
     ·exact absurd e h1
     ·exact hz z hz' e
    ·rw[qAB hstep,hy,List.any_cons,qZ9 h1,Bool.false_or]
theorem qPam {F:Tf} {t:List Nod} (hs:qAS t) (hF:F.flat=t) (hw:F.wf=true) (h0:(0:Int)∉F.srt) (hz:F.size<=20000) (hdep:F.dep<=257) {p:Nat} (hp:p < F.size) {vars:List Vr} {funcs:List Fv}
 (hI:UI (qXU F p) vars funcs) (hl:vars.length<=p) (hm:funcs.length<=p) :
 (¬ Cns (qXU F (p+1))/\∃ x,qNH (t,false,vars,funcs,(p:Int),())=some (.ret,(t,false,x)))\/
 ∃ vars' funcs',UI (qXU F (p+1)) vars' funcs'/\vars'.length<=p+1/\funcs'.length<=p+1/\qNH (t,false,vars,funcs,(p:Int),())=some (.normal,(t,false,vars',funcs',((p+1:Nat):Int),())):=by
 obtain ⟨n,k,x,rest,rest2,h1,h2,h3⟩:=qBao F 0 p hp
 obtain ⟨g1,g2⟩:=qKK (d:=qHF) h2
 have hmem:(n,k)∈F.subs:=qY14 h1
 obtain ⟨w1,w2,w3,w4⟩:=qFan hw h0 hmem
 have hks:=qVe hmem
 have htl:t.length=F.size:=by rw[<-hF,qNC]
 rw[hF] at g1 h2
 have hwp:qI ((p:Int)+1)=((p+1:Nat):Int):=by rw[w64 (by omega)];rfl
 have hT:=qHk h1
 have hkd:k.dep<=257:=by
  have:∀ (f:Tf),(n,k)∈f.subs->k.dep<=f.dep:=by
   intro f
   induction f with
   |nil=>intro h;simp[subs] at h
   |cons a b c ib ic=>
    intro h
    simp only[subs,qY12,qZ7,Prod.mk.injEq] at h
    simp only[dep]
    rcases h with ⟨rfl,rfl⟩ | h | h
    ·omega
    ·have:=ib h;omega
    ·have:=ic h;omega
  have:=this F hmem
  omega
 unfold qNH
 simp only
 rw[qIA (by omega),qEA,qBA (by omega),qBA (by omega),qZ0,g1]
 by_cases e4:n.1=4
 ·have hu:qLT (n,k)=some (n.2.2.1,false,[],n.2.1):=by unfold qLT;rw[if_pos e4]
  rw[hu] at hT
  rw[qFA e4]
  rcases qNag (funcs:=funcs) (t:=t) (i:=p) (n:=n) (by omega) g1 (show vars.length<=20000 by omega) vars.length 0 false (by omega) with ⟨⟨y,y1,y2,y3⟩,z,hz'⟩ | ⟨hy,hz'⟩
  ·rw[show ((0:Nat):Int)=0 from rfl] at hz'
   rw[hz']
   simp only[qAA,qLD,qID,qOA,qWA]
   refine .inl ⟨fun hc=>y3 ?_,_,rfl⟩
   rw[hT] at hc
   have hy1:=hI.v1 y (by simpa using y1)
   have:=hc _ (List.mem_append_left _ hy1) (n.2.2.1,false,[],n.2.1) (by simp) y2
   simp only[Prod.mk.injEq] at this
   exact this.2.2.2
  ·rw[show ((0:Nat):Int)=0 from rfl] at hz'
   rw[hz']
   simp only[qAA,qJB,qOA,Bool.false_or,List.drop_zero]
   by_cases hk:(vars.any fun x=>decide (x.1=n.2.2.1))=true
   ·rw[hk]
    simp only[qY2,qWA,hwp]
    obtain ⟨y,y1,y2⟩:=List.any_eq_true.1 hk
    have y2':y.1=n.2.2.1:=of_decide_eq_true y2
    have hy1:=hI.v1 y y1
    have e2:=hy y (by simpa using y1) y2'
    rw[y2',e2] at hy1
    exact .inr ⟨_,_,by rw[hT];exact hI.again hy1,by omega,by omega,rfl⟩
   ·rw[Bool.not_eq_true] at hk
    rw[hk]
    simp only[qY1,qOA]
    rw[qEA,qBA (by omega),qBA (by omega),qEA,qBA (by omega),qBA (by omega),qBA (by simp[qCF];omega),qZ0,g1,hwp]
    have hx:∀ y∈vars,y.1≠n.2.2.1:=fun y hy1 e=>List.any_eq_false.1 hk y hy1 (qZ10 e)
    exact .inr ⟨_,_,by rw[hT];exact hI.addV hx,by simp;omega,by omega,rfl⟩
 ·rw[qDA e4]
  by_cases e5:n.1=5
  ·have hu:qLT (n,k)=some (n.2.2.1,true,k.srt,n.2.1):=by unfold qLT;rw[if_neg e4,if_pos e5]
   rw[hu] at hT
   rw[qFA e5]
   have hfa:qGf t (p:Int)=some (((n.2.2.1,k.srt,n.2.1),()),()):=by
    unfold qGf
    rw[qEA,qBA (by omega),qBA (by omega),qZap hs (by omega) h2 w2 w3 hkd (by omega),qAA,qEA,qBA (by omega),qBA (by omega),qZ0,g1]
   rw[hfa,qAA]
   have hfl:∀ x∈funcs,x.2.1.length<=20000:=by
    intro y hy
    have hb2:=hI.f1 y hy
    obtain ⟨⟨n',k'⟩,m1,m2⟩:=List.mem_filterMap.1 (qEa _ hb2)
    unfold qLT at m2
    split at m2
    ·simp at m2
    ·split at m2
     ·simp only[Option.some.injEq,Prod.mk.injEq] at m2
      rw[<-m2.2.2.1,qQM]
      have:=qVe m1;have:=qWK k';omega
     ·cases m2
   rcases qNz (t:=t) (vars:=vars) (i:=p) (g:=(n.2.2.1,k.srt,n.2.1)) (show funcs.length<=20000 by omega) hfl funcs.length 0 false (by omega) with ⟨⟨y,y1,y2,y3⟩,z,hz'⟩ | ⟨hy,hz'⟩
   ·rw[show ((0:Nat):Int)=0 from rfl] at hz'
    simp only
    rw[hz']
    simp only[qAA,qLD,qID,qOA,qWA]
    refine .inl ⟨fun hc=>y3 ?_,_,rfl⟩
    rw[hT] at hc
    have hy1:=hI.f1 y (by simpa using y1)
    have:=hc _ (List.mem_append_left _ hy1) (n.2.2.1,true,k.srt,n.2.1) (by simp) y2
    obtain ⟨ya,yb,yc⟩:=y
    simp only[Prod.mk.injEq,true_and] at this ⊢
    exact this
   ·rw[show ((0:Nat):Int)=0 from rfl] at hz'
    simp only
    rw[hz']
    simp only[qAA,qJB,qOA,Bool.false_or,List.drop_zero]
    by_cases hk:(funcs.any fun x=>decide (x.1=n.2.2.1))=true
    ·rw[hk]
     simp only[qY2,qWA,hwp]
     obtain ⟨y,y1,y2⟩:=List.any_eq_true.1 hk
     have y2':y.1=n.2.2.1:=of_decide_eq_true y2
     have hy1:=hI.f1 y y1
     have e2:=hy y (by simpa using y1) y2'
     rw[e2] at hy1
     exact .inr ⟨_,_,by rw[hT];exact hI.again hy1,by omega,by omega,rfl⟩
    ·rw[Bool.not_eq_true] at hk
     rw[hk]
     simp only[qY1,qOA]
     rw[qBA (by simp[qCF];omega),hwp]
     have hx:∀ y∈funcs,y.1≠n.2.2.1:=fun y hy1 e=>List.any_eq_false.1 hk y hy1 (qZ10 e)
     exact .inr ⟨_,_,by rw[hT];exact hI.addF hx,by omega,by simp;omega,rfl⟩
  ·have hu:qLT (n,k)=none:=by unfold qLT;rw[if_neg e4,if_neg e5]
   rw[hu] at hT
   rw[qDA e5,hwp]
   exact .inr ⟨_,_,by rw[hT];simpa using hI,by omega,by omega,rfl⟩
theorem qZak {F:Tf} {t:List Nod} (hs:qAS t) (hF:F.flat=t) (hw:F.wf=true) (h0:(0:Int)∉F.srt) (hz:F.size<=20000) (hdep:F.dep<=257):∀ (m p:Nat) (vars:List Vr) (funcs:List Fv),p+m=F.size->
 UI (qXU F p) vars funcs->vars.length<=p->funcs.length<=p->
 (¬ Cns (qHr F)/\∃ x,qPA qNH (t,false,vars,funcs,(p:Int),())=some (.ret,(t,false,x)))\/
 ∃ vars' funcs' y,UI (qHr F) vars' funcs'/\vars'.length<=20000/\funcs'.length<=20000/\qPA qNH (t,false,vars,funcs,(p:Int),())=some (.exit 0,(t,false,vars',funcs',y)):=by
 have htl:t.length=F.size:=by rw[<-hF,qNC]
 intro m
 induction m with
 |zero=>
  intro p vars funcs hp hI hl hm
  have e:qXU F p=qHr F:=by unfold qXU qHr;rw[List.take_of_length_le (by rw[qGZ];omega)]
  rw[e] at hI
  exact .inr ⟨vars,funcs,_,hI,by omega,by omega,qTA (by unfold qNH;simp only;rw[qNA (by omega)]) (by simp)⟩
 |succ m ih=>
  intro p vars funcs hp hI hl hm
  rcases qPam hs hF hw h0 hz hdep (p:=p) (by omega) hI hl hm with ⟨h1,x,h2⟩ | ⟨vars',funcs',h1,h2,h3,h4⟩
  ·exact .inl ⟨fun hc=>h1 (hc.mono qEa),x,qTA h2 (by simp)⟩
  ·rw[qAB h4]
   exact ih (p+1) vars' funcs' (by omega) h1 h2 h3
theorem qJak {vars:List Vr} {funcs:List Fv} (hl:funcs.length<=20000) {i:Nat} (hi:i < vars.length):∀ (m q:Nat),q+m=funcs.length->
 ((∃ g∈funcs.drop q,(vars.getD i zVr).1=g.1)/\∃ y,qPA qWH (false,vars,funcs,(i:Int),(q:Int),())=some (.ret,(false,vars,funcs,(i:Int),y)))\/
 ((∀ g∈funcs.drop q,(vars.getD i zVr).1≠g.1)/\∃ y,qPA qWH (false,vars,funcs,(i:Int),(q:Int),())=some (.exit 9,(false,vars,funcs,(i:Int),y))):=by
 intro m
 induction m with
 |zero=>
  intro q hq
  have e:funcs.drop q=[]:=qY7 (by omega)
  rw[e]
  exact .inr ⟨fun x hx=>absurd hx qY16,_,qTA (by unfold qWH;simp only;rw[qNA (by omega)]) (by simp)⟩
 |succ m ih=>
  intro q hq
  have hql:q < funcs.length:=by omega
  have hd:=qY6 hql
  have hg:funcs.getD q (([]:qBs),([]:List Int),(0:Int))=funcs[q]:=by simp[qZ4,hql]
  rw[hd]
  generalize funcs[q]=x at hg hd
  have hstep:qWH (false,vars,funcs,(i:Int),(q:Int),())=if (vars.getD i zVr).1=x.1 then some (.ret,(false,vars,funcs,(i:Int),(q:Int),())) else some (.normal,(false,vars,funcs,(i:Int),((q+1:Nat):Int),())):=by
   unfold qWH
   simp only
   rw[qIA (by omega),qEA,qBA (by omega),qBA (by omega),qZ0,qZ0,qBA hi,qEA,qBA (by omega),qBA (by omega),qBA hql,hg,w64 (by omega)]
   by_cases h1:(vars.getD i zVr).1=x.1
   ·rw[show ((vars.getD i zVr).1==x.1)=true from beq_iff_eq.2 h1,if_pos h1,qOA]
   ·rw[show ((vars.getD i zVr).1==x.1)=false from beq_eq_false_iff_ne.2 h1,if_neg h1,qWA];rfl
  by_cases h1:(vars.getD i zVr).1=x.1
  ·rw[if_pos h1] at hstep
   exact .inl ⟨⟨x,by simp,h1⟩,_,qTA hstep (by simp)⟩
  ·rw[if_neg h1] at hstep
   rcases ih (q+1) (by omega) with ⟨⟨z,z1,z2⟩,y,hy⟩ | ⟨hz,y,hy⟩
   ·exact .inl ⟨⟨z,qY13 _ z1,z2⟩,y,by rw[qAB hstep,hy]⟩
   ·refine .inr ⟨fun z hz'=>?_,y,by rw[qAB hstep,hy]⟩
    rcases List.mem_cons.1 hz' with rfl | hz'
    ·exact h1
    ·exact hz z hz'
theorem qMai {vars:List Vr} {funcs:List Fv} (hv:vars.length<=20000) (hl:funcs.length<=20000):∀ (m i:Nat),i+m=vars.length->
 ((∃ v∈vars.drop i,∃ g∈funcs,v.1=g.1)/\∃ y,qPA qOG (false,vars,funcs,(i:Int),())=some (.ret,(false,y)))\/
 ((∀ v∈vars.drop i,∀ g∈funcs,v.1≠g.1)/\∃ y,qPA qOG (false,vars,funcs,(i:Int),())=some (.exit 7,y)):=by
 intro m
 induction m with
 |zero=>
  intro i hi
  have e:vars.drop i=[]:=qY7 (by omega)
  rw[e]
  exact .inr ⟨fun x hx=>absurd hx qY16,_,qTA (by unfold qOG;simp only;rw[qNA (by omega)]) (by simp)⟩
 |succ m ih=>
  intro i hi
  have hil:i < vars.length:=by omega
  have hd:=qY6 hil
  have hg:vars.getD i zVr=vars[i]:=by simp[qZ4,hil]
  have hin:=qJak (vars:=vars) hl hil funcs.length 0 (by omega)
  rw[hg] at hin
  rw[hd]
  generalize vars[i]=x at hg hd hin
  rw[List.drop_zero,show ((0:Nat):Int)=0 from rfl] at hin
  rcases hin with ⟨⟨g,g1,g2⟩,y,hy⟩ | ⟨hn,y,hy⟩
  ·refine .inl ⟨⟨x,by simp,g,g1,g2⟩,_,qTA (y:=(false,vars,funcs,(i:Int),())) ?_ (by simp)⟩
   unfold qOG
   simp only
   rw[qIA (by omega),hy]
   simp only[qAA,qLD,qID,qOA,qWA]
  ·have hgo:qOG (false,vars,funcs,(i:Int),())=some (.normal,(false,vars,funcs,((i+1:Nat):Int),())):=by
    unfold qOG
    simp only
    rw[qIA (by omega),hy]
    simp only[qAA,qJB,qOA]
    rw[w64 (by omega)]
    rfl
   rcases ih (i+1) (by omega) with ⟨⟨v,v1,v2⟩,y,hy⟩ | ⟨hz,y,hy⟩
   ·exact .inl ⟨⟨v,qY13 _ v1,v2⟩,y,by rw[qAB hgo,hy]⟩
   ·refine .inr ⟨fun z hz'=>?_,y,by rw[qAB hgo,hy]⟩
    rcases List.mem_cons.1 hz' with rfl | hz'
    ·exact hn
    ·exact hz z hz'
theorem qXo {F:Tf} {t:List Nod} (hs:qAS t) (hF:F.flat=t) (hw:F.wf=true) (h0:(0:Int)∉F.srt) (hz:F.size<=20000) (hdep:F.dep<=257):∃ b,qJZ t=some ((b,()),())/\(b=true ↔ Cns (qHr F)):=by
 unfold qJZ
 rcases qZak hs hF hw h0 hz hdep F.size 0 [] [] (by omega) UI.nil (by simp) (by simp) with ⟨h1,x,h2⟩ | ⟨vars,funcs,y,h1,h2,h3,h4⟩
 ·rw[show ((0:Nat):Int)=0 from rfl] at h2
  rw[h2]
  simp only[qAA,qLD,qID,qOA,qWA]
  exact ⟨false,rfl,fun h=>(by cases h),fun h=>absurd h h1⟩
 ·rw[show ((0:Nat):Int)=0 from rfl] at h4
  rw[h4]
  simp only[qAA,qJB,qOA]
  rcases qMai h2 h3 vars.length 0 (by omega) with ⟨⟨v,v1,g,g1,e⟩,y,hy⟩ | ⟨hn,y,hy⟩
  ·rw[show ((0:Nat):Int)=0 from rfl] at hy
   rw[hy]
   simp only[qAA,qLD,qID,qOA,qWA]
   refine ⟨false,rfl,fun h=>(by cases h),fun hc=>?_⟩
   have:=hc _ (h1.v1 v (by simpa using v1)) _ (h1.f1 g g1) e
   simp at this
  ·rw[show ((0:Nat):Int)=0 from rfl] at hy
   rw[hy]
   simp only[qAA,qJB,qOA]
   refine ⟨true,rfl,fun _=>?_,fun _=>rfl⟩
   intro a ha b hb e
   obtain ⟨an,ab,al,azs'⟩:=a
   obtain ⟨bn,bb,bl,bs⟩:=b
   simp only at e
   subst e
   rcases h1.w _ ha with ⟨p1,p2⟩ | p1<;>rcases h1.w _ hb with ⟨q1,q2⟩ | q1<;>simp only at p1 q1
   ·exact h1.c _ ha _ hb rfl (by simp only;rw[p1,q1])
   ·simp only at p2
    subst p1;subst p2;subst q1
    exact absurd rfl (hn _ (by simpa using h1.v2 _ _ ha) _ (h1.f2 _ _ _ hb))
   ·simp only at q2
    subst p1;subst q2;subst q1
    exact absurd rfl (hn _ (by simpa using h1.v2 _ _ hb) _ (h1.f2 _ _ _ ha))
   ·exact h1.c _ ha _ hb rfl (by simp only;rw[p1,q1])
theorem qQr {t:List Nod} (hs:qAS t):(∃ F,VT t F/\qKa t=some ((F.srt.getD 0 0,()),())/\1<=F.srt.getD 0 0)\/((¬ ∃ F,VT t F)/\qKa t=some ((0,()),())):=by
 unfold qKa
 by_cases hl:t.length > 20000
 ·rw[qIA (by omega)]
  refine .inr ⟨fun ⟨F,hF⟩=>?_,rfl⟩
  have:=hF.size
  have h2:=qNC F
  rw[hF.flat] at h2
  omega
 rw[qNA (by omega)]
 obtain ⟨f,hf1,hf2⟩:=qFw
 have htr:=qLai hs (by omega) f 0 (by omega) (by omega) 0
 rw[show ((0:Nat):Int)=0 from rfl,List.drop_zero] at htr
 rw[hf1,htr,qAA]
 have hiff:∀ F,VT t F->one 257 t=some (F,[]):=by
  intro F hF
  have:=qOv (f:=F) (d:=257) [] hF.wf hF.len hF.dep
  rw[qY4,hF.flat] at this
  exact this
 unfold qKY
 rw[show 257 - 0=257 from rfl]
 cases ho:one 257 t with
 |none=>
  simp only
  rw[qFE (show (-1:Int)≠(t.length:Int) by omega)]
  exact .inr ⟨fun ⟨F,hF⟩=>(by rw[hiff F hF] at ho;cases ho),rfl⟩
 |some x=>
  obtain ⟨F,l'⟩:=x
  obtain ⟨o1,o2,o3,o4⟩:=qQY 257 ho
  simp only
  by_cases hl':l'=[]
  ·subst hl'
   rw[qY4] at o1
   rw[qMD (show (t.length:Int) - (([]:List Nod).length:Int)=(t.length:Int) by simp)]
   obtain ⟨x,hx⟩:∃ x,F.srt=[x]:=by
    have:=qQM F
    rw[o3] at this
    match h:F.srt,this with
    |[x],_=>exact ⟨x,rfl⟩
   have hg:F.srt.getD 0 0=x:=by rw[hx];rfl
   have hz:F.size<=20000:=by rw[<-qNC,<-o1];omega
   by_cases h0:F.srt.getD 0 0=0
   ·rw[qFA h0]
    refine .inr ⟨fun ⟨G,hG⟩=>?_,rfl⟩
    have:=hiff G hG
    rw[ho] at this
    cases this
    exact hG.srt (by rw[hx,<-hg,h0];simp)
   rw[qDA h0]
   have hn:(0:Int)∉F.srt:=by rw[hx];simp;rw[hg] at h0;exact fun e=>h0 e.symm
   obtain ⟨b,b1,b2⟩:=qXo hs o1.symm o2 hn hz o4
   rw[b1,qAA]
   cases b with
   |true=>
    refine .inl ⟨F,⟨o1.symm,o2,hn,o3,hz,o4,b2.1 rfl⟩,rfl,?_⟩
    have:=qOp F o2 x (by rw[hx];simp)
    omega
   |false=>
    refine .inr ⟨fun ⟨G,hG⟩=>?_,rfl⟩
    have:=hiff G hG
    rw[ho] at this
    cases this
    have:=b2.2 hG.cns
    cases this
  ·have hpos:0 < l'.length:=List.length_pos_iff.2 hl'
   rw[qFE (by omega)]
   refine .inr ⟨fun ⟨G,hG⟩=>?_,rfl⟩
   have:=hiff G hG
   rw[ho] at this
   cases this
   exact hl' rfl
theorem qCX {t:List Nod} (hs:qAS t):∃ b,qBQ t=some ((b,()),())/\(b=true ↔ ∃ F,VT t F):=by
 unfold qBQ
 rcases qQr hs with ⟨F,h1,h2,h3⟩ | ⟨h1,h2⟩
 ·rw[h2,qAA]
  exact ⟨_,rfl,fun _=>⟨F,h1⟩,fun _=>qZ10 (show F.srt.getD 0 0 > 0 by omega)⟩
 ·rw[h2,qAA]
  exact ⟨_,rfl,fun h=>(by cases h),fun h=>absurd h h1⟩
theorem qMas {p q:Rat} (hp:D p<=400000) (hq:D q<=400000):qTz (txt p) (txt q)=some ((txt (p+q),()),()):=by
 have:=qXD p;have:=qXD q;rw[qOo (by omega) (by omega),qBL]
theorem qJau {p q:Rat} (hp:D p<=400000) (hq:D q<=400000):qKt (txt p) (txt q)=some ((txt (p * q),()),()):=by
 have:=qXD p;have:=qXD q;rw[qEi (by omega) (by omega),qBL]
theorem qLan {p q:Rat} (hp:D p<=100000) (hq:D q<=100000):qVc (txt p) (txt q)=some (((p - q).num.sign,()),()):=by
 have:=qXD p;have:=qXD q;rw[qDg (by omega) (by omega),qFr,qPK,qPK]
theorem qVat {x y:Int} (hz:y≠0) (hp:(txt (x:Rat)).length<=30000) (hq:(txt (y:Rat)).length<=30000):qKu (txt (x:Rat)) (txt (y:Rat))=some ((txt ((x / y:Int):Rat),()),()):=by
 rw[qIw (by omega) (by omega),sQuo,qJN,if_neg hz]
theorem qAat {x y:Int} (hz:y≠0) (hp:(txt (x:Rat)).length<=30000) (hq:(txt (y:Rat)).length<=30000):qZad (txt (x:Rat)) (txt (y:Rat))=some ((txt ((x % y:Int):Rat),()),()):=by
 rw[qGaj hp hq,sRem,qJN,if_neg hz]
theorem qXk (b:Bool):qNO b=some ((encS (.b b),()),()):=rfl
theorem qJk {op:Int} {a:List Val} (hl:a.length<=1000000000) (hop:op=7\/op=8) :
 (a.all (fun v=>!(v.2.1==(op==8)))=true/\qPA qBN (op,a,qHD,0,())=some (.exit 1,(op,a,qHD,(a.length:Int),())))\/(a.all (fun v=>!(v.2.1==(op==8)))=false/\∃ k:Nat,qPA qBN (op,a,qHD,0,())=some (.ret,(op,a,encS (.b (op==8)),(k:Int),()))):=by
 have key:=qKI (step:=qBN) (fun k=>(op,a,qHD,(k:Int),())) (fun k=>(op,a,encS (.b (op==8)),(k:Int),())) a.length (E:=.exit 1) (B:=.ret) (by simp) (by simp) (fun k=>!((a.getD k qHD).2.1==(op==8))) (fun k hk=>by
  unfold qBN
  simp only
  rw[qIA (by omega),qEA,qBA (by omega),qBA (by omega),qZ0,qXk,qAA,w64 (by omega)]
  cases ((a.getD k qHD).2.1==(op==8))<;>rfl) (by
  unfold qBN
  simp only
  rw[qNA (by omega)])
 rw[qWN a qHD (fun v=>!(v.2.1==(op==8)))] at key
 exact key
theorem qKy {n:Nod} {vs:List SV} (ho:nOp n=6\/nOp n=7\/nOp n=8\/nOp n=9) (hc:qXA (nOp n) vs.length=true) (hl:vs.length<=100000):qOh (nOp n) (vs.map encS)=some ((encS (opV n vs),()),()):=by
 have hlm:(vs.map encS).length<=1000000000:=by rw[List.length_map];omega
 unfold qOh opV
 by_cases e6:nOp n=6
 ·rw[e6] at hc
  rw[qFA e6,if_neg (by omega),if_neg (by omega),if_pos e6]
  rcases vs with _ | ⟨a,_ | ⟨b,l⟩⟩<;>simp[qXA] at hc
  ·simp only[List.map_cons,List.map_nil,qZ3]
   rw[qEA,qBA (by omega),qBA (by simp),i0,qZ3,qGM]
   rfl
  ·omega
 rw[qDA e6]
 by_cases e9:nOp n=9
 ·rw[e9] at hc
  rw[qFA e9,if_neg (by omega),if_neg (by omega),if_neg e6,if_pos e9]
  rcases vs with _ | ⟨a,_ | ⟨b,_ | ⟨c,l⟩⟩⟩<;>simp[qXA] at hc
  ·simp only[List.map_cons,List.map_nil,qZ3,qZ2]
   rw[qEA,qBA (by omega),qBA (by simp),qEA,qBA (by omega),qBA (by simp),i0,i1,qZ2,qZ3,qZ3,qGM,qGM]
   cases isT a<;>rfl
  ·omega
 rw[qDA e9]
 have hop:nOp n=7\/nOp n=8:=by omega
 have hz:((0:Int),false,([]:qBs),([]:List qBs),([]:List qBs))=qHD:=rfl
 rw[hz]
 rcases hop with h7 | h8
 ·rw[if_pos (.inr h7)]
  have key:=qJk hlm (op:=nOp n) (.inl h7)
  have e8:(nOp n==8)=false:=by rw[h7];rfl
  have e7:(nOp n==7)=true:=by rw[h7];rfl
  rw[e8] at key
  have ha:(vs.map encS).all (fun v=>!(v.2.1==false))=vs.all isT:=by
   rw[List.all_map]
   congr 1
   funext v
   simp only[Function.comp,qGM]
   cases isT v<;>rfl
  rw[ha] at key
  rcases key with ⟨k1,k2⟩ | ⟨k1,k,k2⟩
  ·rw[k2,k1]
   simp only[qAA,qJB,qOA]
   rw[e7];rfl
  ·rw[k2,k1]
   simp only[qAA,qLD,qID,qOA,qWA]
 ·rw[if_neg (by omega),if_pos (.inr h8)]
  have key:=qJk hlm (op:=nOp n) (.inr h8)
  have e8:(nOp n==8)=true:=by rw[h8];rfl
  have e7:(nOp n==7)=false:=by rw[h8];rfl
  rw[e8] at key
  have ha:(vs.map encS).all (fun v=>!(v.2.1==true))=!vs.any isT:=by
   rw[List.all_map,<-qDad]
   congr 1
   funext v
   simp only[Function.comp,qGM]
   cases isT v<;>rfl
  rw[ha] at key
  rcases key with ⟨k1,k2⟩ | ⟨k1,k,k2⟩
  ·have k1':vs.any isT=false:=by simpa using k1
   rw[k2,k1']
   simp only[qAA,qJB,qOA]
   rw[e7];rfl
  ·have k1':vs.any isT=true:=by simpa using k1
   rw[k2,k1']
   simp only[qAA,qLD,qID,qOA,qWA]
abbrev Xe:=(List Nod)×(List qSJ)×List Interp
theorem qSac (x0:Xe) (t6:Val) (L:List SV) (hL:L.length<=100000):∀ (vs pre:List SV) (a B:Nat) (r:Rat),L=pre++vs->(∀ v∈vs,qWE v=2\/qWE v=3)->Ht a r->Hs vs B->a+B<=190000->
 qPA qLF (x0,L.map encS,t6,txt r,(pre.length:Int),())=some (.exit 3,(x0,L.map encS,t6,txt (vs.foldl (fun s v=>s+qLO v) r),(L.length:Int),())):=by
 intro vs
 induction vs with
 |nil=>
  intro pre a B r hL' _ _ _ _
  have:pre.length=L.length:=by rw[hL'];simp
  refine qTA ?_ (by simp)
  unfold qLF
  simp only
  rw[qNA (by rw[List.length_map];omega),this]
  rfl
 |cons w vs ih=>
  intro pre a B r hL' hs hr hB hab
  obtain ⟨b,c,h1,h2,h3,h4⟩:=hB
  have hlen:L.length=pre.length+(vs.length+1):=by rw[hL'];simp
  have hg:(L.map encS).getD pre.length qHD=encS w:=by
   rw[qLaf (by omega),hL'];simp[qZ4]
  have hw:=qNM h2 h1
  rw[qAB (y:=(x0,L.map encS,t6,txt (r+qLO w),((pre++[w]).length:Int),())) (by
   unfold qLF
   simp only
   rw[qIA (by rw[List.length_map];omega),qEA,qBA (by omega),qBA (by rw[List.length_map];omega),qZ0,hg,qHM (hs w (by simp)),qMas (by have:=hr.D;omega) (by have:=hw.D;omega),qAA,w64 (by omega)]
   simp)]
  rw[ih (pre++[w]) (a+b+1) c (r+qLO w) (by rw[hL'];simp) (fun v hv=>hs v (by simp[hv])) (qRag hr hw) h3 (by omega)]
  rfl
theorem qBal {B:Nat} {a b:SV} (h:Bdd B a) (hB:B<=90000):qIJ (encS a) (encS b)=some ((decide (encS a=encS b),()),()):=by
 cases a with
 |a d P=>
  have:=h.2.2
  exact qDS (by simp only[encS,qEE];omega) (by simp only[encS,qRI];omega)
 |b x=>exact qDS (by simp[encS]) (by simp[encS])
 |z x=>exact qDS (by simp[encS]) (by simp[encS])
 |q x=>exact qDS (by simp[encS]) (by simp[encS])
theorem qSah {x0:Xe} {n:Nod} {vs:List SV} {B:Nat} {f:Int} (hn:qRC n=true) (h4:nOp n≠4) (h5:nOp n≠5) (hc:qXA (nOp n) vs.length=true) (hs:qCD n f (vs.map qWE)≠0)
 (hok:∀ v∈vs,okS v) (hB:Hs vs B) (hB9:B<=29000) (hnn:Ht 75 (qJe n)) (hl:vs.length<=100000):qME x0 n (vs.map encS)=some ((encS (opV n vs),0,()),(x0,())):=by
 have hop:=qUq hn
 have hlog:nOp n=6\/nOp n=7\/nOp n=8\/nOp n=9->qOh (nOp n) (vs.map encS)=some ((encS (opV n vs),()),()):=fun h=>qKy h hc hl
 unfold qME
 have hO:n.1=nOp n:=rfl
 have hN:n.2.2.2.1=qAU n:=rfl
 have hS:n.2.1=qHG n:=rfl
 rw[hO,hN,hS]
 by_cases e1:nOp n=1
 ·have hv:opV n vs=.b (vs.all isT):=by unfold opV;rw[if_pos (.inl e1)]
  rw[e1] at hc
  have:vs=[]:=by
   have:vs.length=0:=by simp[qXA] at hc;simpa using hc
   exact List.length_eq_zero_iff.1 this
  rw[qFA e1,hv,this,e1]
  rfl
 rw[qDA e1]
 by_cases e2:nOp n=2
 ·have hv:opV n vs=.b (vs.any isT):=by unfold opV;rw[if_neg (by omega),if_pos (.inl e2)]
  rw[e2] at hc
  have:vs=[]:=by
   have:vs.length=0:=by simp[qXA] at hc;simpa using hc
   exact List.length_eq_zero_iff.1 this
  rw[qFA e2,hv,this,e2]
  rfl
 rw[qDA e2]
 by_cases e3:nOp n=3
 ·rw[qFA e3]
  obtain ⟨a1,a2,a3⟩:=qNs hn e3
  have:opV n vs=qCr (qHG n) (qJe n):=by unfold opV;simp[e3]
  rw[this,qLW a1 a3,a2]
 rw[qDA e3,qDA h4,qDA h5]
 by_cases e10:nOp n=10
 ·have hv:opV n vs=(if isT (vs.getD 0 (.b false))=true then vs.getD 1 (.b false) else vs.getD 2 (.b false)):=by
   unfold opV
   rw[if_neg (by omega),if_neg (by omega),if_neg (by omega),if_neg (by omega),if_pos e10]
  rw[e10] at hc
  rw[qFA e10,hv]
  rcases vs with _ | ⟨a,_ | ⟨b,_ | ⟨c,_ | ⟨d,l⟩⟩⟩⟩<;>simp[qXA] at hc
  ·simp only[List.map_cons,List.map_nil,qZ3,qZ2]
   rw[qEA,qBA (by omega),qBA (by simp),qEA,qBA (by omega),qBA (by simp),qEA,qBA (by omega),qBA (by simp),i0,i1,i2,qZ2,qZ2,qZ2,qZ3,qZ3,qZ3,qGM]
   cases isT a<;>rfl
  ·omega
 rw[qDA e10]
 by_cases e11:nOp n=11
 ·have hv:opV n vs=.b (@decide (vs.getD 0 (.b false)=vs.getD 1 (.b false)) (Classical.propDecidable _)):=by
   unfold opV
   rw[if_neg (by omega),if_neg (by omega),if_neg (by omega),if_neg (by omega),if_neg e10,if_pos e11]
  rw[e11] at hc
  rw[qFA e11,hv]
  rcases vs with _ | ⟨a,_ | ⟨b,_ | ⟨c,l⟩⟩⟩<;>simp[qXA] at hc
  ·simp only[List.map_cons,List.map_nil,qZ3,qZ2]
   rw[qEA,qBA (by omega),qBA (by simp),qEA,qBA (by omega),qBA (by simp),i0,i1,qZ2,qZ3,qZ3,qBal (hB.mem a (by simp)) (by omega),qAA,qXk,qAA]
   simp only[qZ3,qZ2]
   exact congrArg (fun x=>some ((encS (SV.b x),(0:Int),()),(x0,()))) (qZab a b)
  ·omega
 rw[qDA e11]
 have hnum:nOp n=12\/nOp n=13->∃ a b,vs=[a,b]/\(qWE a=2\/qWE a=3)/\(qWE b=2\/qWE b=3):=by
  intro ho
  have hc2:vs.length=2:=by
   rcases ho with ho | ho<;>rw[ho] at hc<;>simp[qXA] at hc<;>omega
  unfold qCD at hs
  rw[if_neg (by omega),if_neg (by omega),if_neg (by omega),if_neg (by omega),if_pos ho] at hs
  rcases vs with _ | ⟨a,_ | ⟨b,_ | ⟨c,l⟩⟩⟩<;>simp at hc2
  ·simp only[List.map_cons,List.map_nil,qZ3] at hs
   split at hs
   ·rename_i hh
    have hb:qWE b=qWE a:=hh.2 _ (by simp)
    exact ⟨a,b,rfl,hh.1,by rw[hb];exact hh.1⟩
   ·exact absurd rfl hs
 by_cases e12:nOp n=12
 ·obtain ⟨a,b,rfl,ha,hb⟩:=hnum (.inl e12)
  have qa:=(qNM ((hB.mem a (by simp)).mono (Nat.le_add_right B 1)) (by omega)).D
  have qb:=(qNM ((hB.mem b (by simp)).mono (Nat.le_add_right B 1)) (by omega)).D
  have hv:opV n [a,b]=.b (decide (qLO a<=qLO b)):=by
   unfold opV
   rw[if_neg (by omega),if_neg (by omega),if_neg (by omega),if_neg (by omega),if_neg e10,if_neg e11,if_pos e12]
   simp only[qZ3,qZ2]
  rw[qFA e12,hv]
  simp only[List.map_cons,List.map_nil]
  rw[qEA,qBA (by omega),qBA (by simp),qEA,qBA (by omega),qBA (by simp),i0,i1,qZ2,qZ3,qZ3,qHM ha,qHM hb,qLan (by omega) (by omega),qAA]
  simp only
  have e:decide ((qLO a - qLO b).num.sign<=0)=decide (qLO a<=qLO b):=by rw[decide_eq_decide];exact qRan _ _
  rw[e];rfl
 rw[qDA e12]
 by_cases e13:nOp n=13
 ·obtain ⟨a,b,rfl,ha,hb⟩:=hnum (.inr e13)
  have qa:=(qNM ((hB.mem a (by simp)).mono (Nat.le_add_right B 1)) (by omega)).D
  have qb:=(qNM ((hB.mem b (by simp)).mono (Nat.le_add_right B 1)) (by omega)).D
  have hv:opV n [a,b]=.b (decide (qLO a < qLO b)):=by
   unfold opV
   rw[if_neg (by omega),if_neg (by omega),if_neg (by omega),if_neg (by omega),if_neg e10,if_neg e11,if_neg e12,if_pos e13]
   simp only[qZ3,qZ2]
  rw[qFA e13,hv]
  simp only[List.map_cons,List.map_nil]
  rw[qEA,qBA (by omega),qBA (by simp),qEA,qBA (by omega),qBA (by simp),i0,i1,qZ2,qZ3,qZ3,qHM ha,qHM hb,qLan (by omega) (by omega),qAA]
  simp only
  have e:decide ((qLO a - qLO b).num.sign < 0)=decide (qLO a < qLO b):=by rw[decide_eq_decide];exact qKan _ _
  rw[e];rfl
 rw[qDA e13]
 by_cases hlo:nOp n=6\/nOp n=7\/nOp n=8\/nOp n=9
 ·rw[qDA (by omega),qDA (by omega),qDA (by omega),qDA (by omega),qDA (by omega),qDA (by omega),qDA (by omega),hlog hlo,qAA]
 clear hlog hnum
 have hv:opV n vs=if nOp n=14 then qCr (qWE (vs.getD 0 (.b false))) (sumQ vs)
  else if nOp n=15 then qCr (qWE (vs.getD 0 (.b false))) (qLO (vs.getD 0 (.b false)) * qLO (vs.getD 1 (.b false)))
  else if nOp n=16 then .z (intV (vs.getD 0 (.b false)) / (qJe n).num)
  else if nOp n=17 then .z (intV (vs.getD 0 (.b false)) % (qJe n).num)
  else if nOp n=18 then .z (atS (vs.getD 0 (.b false)) (intV (vs.getD 1 (.b false))))
  else if nOp n=19 then stS (vs.getD 0 (.b false)) (intV (vs.getD 1 (.b false))) (intV (vs.getD 2 (.b false)))
  else .a (intV (vs.getD 0 (.b false))) []:=by
  unfold opV
  rw[if_neg (by omega),if_neg (by omega),if_neg (by omega),if_neg (by omega),if_neg (by omega),if_neg (by omega),if_neg (by omega),if_neg (by omega),if_neg e3]
 rw[hv]
 have hst:qCD n f (vs.map qWE)=if nOp n=14 then (if ((vs.map qWE).getD 0 0=2\/(vs.map qWE).getD 0 0=3)/\∀ s∈vs.map qWE,s=(vs.map qWE).getD 0 0 then (vs.map qWE).getD 0 0 else 0)
  else if nOp n=15 then (if f=3/\((vs.map qWE).getD 0 0=2\/(vs.map qWE).getD 0 0=3)/\∀ s∈vs.map qWE,s=(vs.map qWE).getD 0 0 then (vs.map qWE).getD 0 0 else 0)
  else if nOp n=16\/nOp n=17 then (if (vs.map qWE).getD 0 0=2 then 2 else 0)
  else if nOp n=18 then (if (vs.map qWE).getD 0 0=4/\(vs.map qWE).getD 1 0=2 then 2 else 0)
  else if nOp n=19 then (if (vs.map qWE).getD 0 0=4/\(vs.map qWE).getD 1 0=2/\(vs.map qWE).getD 2 0=2 then 4 else 0)
  else if nOp n=20 then (if (vs.map qWE).getD 0 0=2 then 4 else 0) else 0:=by
  unfold qCD
  rw[if_neg (by omega),if_neg (by omega),if_neg (by omega),if_neg (by omega),if_neg (by omega)]
 rw[hst] at hs
 clear hv hst
 by_cases e14:nOp n=14
 ·rw[e14] at hc
  rw[if_pos e14] at hs
  rw[qFA e14,if_pos e14]
  rcases vs with _ | ⟨a,l⟩
  ·simp[qXA] at hc
  ·simp only[List.map_cons,qZ3] at hs ⊢
   split at hs
   ·rename_i hh
    obtain ⟨g1,g2⟩:=hh
    have hall:∀ v∈a::l,qWE v=qWE a:=fun v hv=>g2 (qWE v) (by
     rcases List.mem_cons.1 hv with rfl | hv
     ·simp
     ·exact qY13 _ (List.mem_map_of_mem hv))
    have h0:Ht 1 ((0:Int):Rat):=qST (by simp[qFD])
    have key:=qSac x0 ((0:Int),false,([]:qBs),([]:List qBs),([]:List qBs)) (a::l) hl (a::l) [] 1 B ((0:Int):Rat) rfl (fun v hv=>by rw[hall v hv];exact g1) h0 hB (by omega)
    rw[<-t0] at key
    simp only[List.length_nil,List.map_cons] at key
    rw[show ((0:Nat):Int)=0 from rfl] at key
    rw[key]
    simp only[qAA,qJB,qOA]
    rw[qEA,qBA (by omega),qBA (by simp),i0,qZ3,qCR]
    have e:sumQ (a::l)=(a::l).foldl (fun s v=>s+qLO v) ((0:Int):Rat):=rfl
    rw[e,qLW g1 fun h2=>qFae _ _ (Rat.den_intCast 0) fun v hv=>by rw[hall v hv];exact h2]
   ·exact absurd rfl hs
 rw[if_neg e14] at hs
 rw[qDA e14,if_neg e14]
 by_cases e15:nOp n=15
 ·rw[e15] at hc
  rw[if_pos e15] at hs
  rw[qFA e15,if_pos e15]
  rcases vs with _ | ⟨a,_ | ⟨b,_ | ⟨c,l⟩⟩⟩<;>simp[qXA] at hc
  ·simp only[List.map_cons,List.map_nil,qZ3,qZ2] at hs ⊢
   split at hs
   ·rename_i hh
    obtain ⟨_,g1,g2⟩:=hh
    have hb:qWE b=qWE a:=g2 _ (by simp)
    obtain ⟨x,c,q1,q2,⟨y,c2,q5,q6,q7,q8⟩,q4⟩:=hB
    have ha':=(qNM q2 q1).D
    have hb':=(qNM q6 q5).D
    rw[qEA,qBA (by omega),qBA (by simp),qEA,qBA (by omega),qBA (by simp),qEA,qBA (by omega),qBA (by simp),i0,i1,qZ2,qZ3,qZ3,
     qHM g1,qHM (by rw[hb];exact g1),qJau (by omega) (by omega),qAA,qCR]
    rw[qLW g1 fun h2=>by
     rw[(qVI h2).2.2,(qVI (hb.trans h2)).2.2,<-Rat.intCast_mul,Rat.den_intCast]]
   ·exact absurd rfl hs
  ·omega
 rw[if_neg e15] at hs
 rw[qDA e15,if_neg e15]
 by_cases e16:nOp n=16
 ·rw[e16] at hc
  rw[if_pos (.inl e16)] at hs
  rw[qFA e16,if_pos e16]
  obtain ⟨m,m1,m2,m3⟩:=qNn hn (.inl e16)
  rcases vs with _ | ⟨a,_ | ⟨b,l⟩⟩<;>simp[qXA] at hc
  ·simp only[List.map_cons,List.map_nil,qZ3] at hs ⊢
   split at hs
   ·rename_i hh
    have hi:=qVI hh
    have h1:=qHe (qFX ((hB.mem a (by simp)).mono (Nat.le_add_right B 1)) (by omega))
    have h2:=qMh hnn
    rw[m3] at h2
    have h2:=qHe h2
    unfold ti at h1 h2
    rw[qEA,qBA (by omega),qBA (by simp),i0,qZ3,hi.2.1,m2,m3]
    unfold ti
    rw[qVat (by omega) (by omega) (by omega),qAA]
    rfl
   ·exact absurd rfl hs
  ·omega
 rw[qDA e16,if_neg e16]
 by_cases e17:nOp n=17
 ·rw[e17] at hc
  rw[if_pos (.inr e17)] at hs
  rw[qFA e17,if_pos e17]
  obtain ⟨m,m1,m2,m3⟩:=qNn hn (.inr e17)
  rcases vs with _ | ⟨a,_ | ⟨b,l⟩⟩<;>simp[qXA] at hc
  ·simp only[List.map_cons,List.map_nil,qZ3] at hs ⊢
   split at hs
   ·rename_i hh
    have hi:=qVI hh
    have h1:=qHe (qFX ((hB.mem a (by simp)).mono (Nat.le_add_right B 1)) (by omega))
    have h2:=qMh hnn
    rw[m3] at h2
    have h2:=qHe h2
    unfold ti at h1 h2
    rw[qEA,qBA (by omega),qBA (by simp),i0,qZ3,hi.2.1,m2,m3]
    unfold ti
    rw[qAat (by omega) (by omega) (by omega),qAA]
    rfl
   ·exact absurd rfl hs
  ·omega
 rw[if_neg (by omega)] at hs
 rw[qDA e17,if_neg e17]
 by_cases e18:nOp n=18
 ·rw[e18] at hc
  rw[if_pos e18] at hs
  rw[qFA e18,if_pos e18]
  rcases vs with _ | ⟨a,_ | ⟨b,_ | ⟨c,l⟩⟩⟩<;>simp[qXA] at hc
  ·simp only[List.map_cons,List.map_nil,qZ3,qZ2] at hs ⊢
   split at hs
   ·rename_i hh
    obtain ⟨d,P,rfl⟩:=qQl hh.1
    have hP:Canon d P:=hok _ (List.mem_cons_self)
    have hi:=qVI hh.2
    have hsm:=qJal (hB.mem (.a d P) (by simp)) (by omega)
    have h1:=qHe (qFX ((hB.mem b (by simp)).mono (Nat.le_add_right B 1)) (by omega))
    rw[qEA,qBA (by omega),qBA (by simp),qEA,qBA (by omega),qBA (by simp),i0,i1,qZ2,qZ3,qZ3,hi.2.1]
    have e:encS (.a d P)=qJH d P:=rfl
    rw[e,qYat (N:=100000) (by omega) hP hsm (by omega),qAA]
    rfl
   ·exact absurd rfl hs
  ·omega
 rw[if_neg e18] at hs
 rw[qDA e18,if_neg e18]
 by_cases e19:nOp n=19
 ·rw[e19] at hc
  rw[if_pos e19] at hs
  rw[qFA e19,if_pos e19]
  rcases vs with _ | ⟨a,_ | ⟨b,_ | ⟨c,_ | ⟨d,l⟩⟩⟩⟩<;>simp[qXA] at hc
  ·simp only[List.map_cons,List.map_nil,qZ3,qZ2] at hs ⊢
   split at hs
   ·rename_i hh
    obtain ⟨d,P,rfl⟩:=qQl hh.1
    have hP:Canon d P:=hok _ (List.mem_cons_self)
    have hi:=qVI hh.2.1
    have hj:=qVI hh.2.2
    have hsm:=qJal (hB.mem (.a d P) (by simp)) (by omega)
    have h1:=qHe (qFX ((hB.mem b (by simp)).mono (Nat.le_add_right B 1)) (by omega))
    have h2:=qHe (qFX ((hB.mem c (by simp)).mono (Nat.le_add_right B 1)) (by omega))
    rw[qEA,qBA (by omega),qBA (by simp),qEA,qBA (by omega),qBA (by simp),qEA,qBA (by omega),qBA (by simp),i0,i1,i2,qZ2,qZ2,qZ2,qZ3,qZ3,qZ3,hi.2.1,hj.2.1]
    have e:encS (.a d P)=qJH d P:=rfl
    rw[e,qKg (N:=100000) (by omega) hP hsm (by omega) (by omega),qAA]
    rfl
   ·exact absurd rfl hs
  ·omega
 rw[if_neg e19] at hs
 rw[qDA e19,if_neg e19]
 have e20:nOp n=20:=by omega
 rw[qFA e20]
 rw[e20] at hc
 rw[if_pos e20] at hs
 rcases vs with _ | ⟨a,_ | ⟨b,l⟩⟩<;>simp[qXA] at hc
 ·simp only[List.map_cons,List.map_nil,qZ3] at hs ⊢
  split at hs
  ·rename_i hh
   have hi:=qVI hh
   rw[qEA,qBA (by omega),qBA (by simp),i0,qZ3,hi.2.1]
   rfl
  ·exact absurd rfl hs
 ·omega
structure RM (A:qBs->Option SV) (G:Nod->List SV->Int ⊕ SV) (env:List qSJ) (fns:List Interp):Prop where
 var:∀ nm,(env.find? fun b=>decide (b.1=nm)).map (·.2)=(A nm).map encS
 len:env.length<=1000000000
 call:∀ t n vs B,Hs vs B->B<=29000->qMJ (t,env,fns) n (vs.map encS)=some ((match G n vs with | .inl e=>(qHD,e,()) | .inr v=>(encS v,0,())),((t,env,fns),()))
theorem qEae (x0:Xe) (hl:x0.2.1.length<=1000000000) (n:Nod):∀ (m i:Nat),i+m=x0.2.1.length->
 match (x0.2.1.drop i).find? (fun b=>decide (b.1=n.2.2.1)) with
 |none=>∃ y,qPA qKD (x0,n,qHD,0,(i:Int),())=some (.exit 1,(x0,y))
 |some b=>∃ y,qPA qKD (x0,n,qHD,0,(i:Int),())=some (.ret,(x0,n,(if b.2.1=n.2.1 then b.2 else qHD),(if b.2.1=n.2.1 then 0 else 3),y)):=by
 intro m
 induction m with
 |zero=>
  intro i hi
  have e:x0.2.1.drop i=[]:=qY7 (by omega)
  rw[e]
  exact ⟨_,qTA (by unfold qKD;simp only;rw[qNA (by omega)]) (by simp)⟩
 |succ m ih=>
  intro i hi
  have hil:i < x0.2.1.length:=by omega
  have hd:=qY6 hil
  have hg:x0.2.1.getD i qXR=x0.2.1[i]:=by simp[qZ4,hil]
  rw[hd]
  generalize x0.2.1[i]=b at hg hd
  have hstep:qKD (x0,n,qHD,0,(i:Int),())=if b.1=n.2.2.1 then some (.ret,(x0,n,(if b.2.1=n.2.1 then b.2 else qHD),(if b.2.1=n.2.1 then 0 else 3),(i:Int),())) else some (.normal,(x0,n,qHD,0,((i+1:Nat):Int),())):=by
   unfold qKD
   simp only
   rw[qIA (by omega),qEA,qBA (by omega),qBA (by omega),qZ0,hg,w64 (by omega)]
   by_cases h1:b.1=n.2.2.1
   ·rw[show (b.1==n.2.2.1)=true by simpa using h1,if_pos h1,qOA,qEA,qBA (by omega),qBA (by omega)]
    by_cases h2:b.2.1=n.2.1
    ·rw[qMD h2,if_pos h2,if_pos h2,qEA,qBA (by omega),qBA (by omega)]
    ·rw[qFE h2,if_neg h2,if_neg h2]
   ·rw[show (b.1==n.2.2.1)=false by simpa using h1,if_neg h1,qWA];rfl
  by_cases h1:b.1=n.2.2.1
  ·rw[if_pos h1] at hstep
   rw[List.find?_cons,qZ10 h1]
   exact ⟨_,qTA hstep (by simp)⟩
  ·rw[if_neg h1] at hstep
   rw[List.find?_cons,qZ9 h1]
   have:=ih (i+1) (by omega)
   simp only
   cases hf:(x0.2.1.drop (i+1)).find? (fun b=>decide (b.1=n.2.2.1)) with
   |none=>
    rw[hf] at this
    obtain ⟨y,hy⟩:=this
    exact ⟨y,by rw[qAB hstep,hy]⟩
   |some c=>
    rw[hf] at this
    obtain ⟨y,hy⟩:=this
    exact ⟨y,by rw[qAB hstep,hy]⟩
def qNan (A:qBs->Option SV) (G:Nod->List SV->Int ⊕ SV) (x0:Xe) (ev:Xe->Int->Option ((Val×Int×Int×Unit)×(Xe×Unit))) (d:Nat):Prop:=
 ∀ (n:Nod) (k:Tf) (p:Nat) (rest:List Nod),x0.1.drop p=n::(k.flat++rest)->(cons n k nil).wf=true->(0:Int)∉(cons n k nil).srt->qVT (cons n k nil)->k.dep+1<=d->
  match evF A G (cons n k nil) with
  |.inl e=>∃ v j,ev x0 (p:Int)=some ((v,j,e,()),(x0,()))
  |.inr [v]=>ev x0 (p:Int)=some ((encS v,((p+1+k.size:Nat):Int),0,()),(x0,()))
  |.inr _=>False
theorem qJv {A:qBs->Option SV} {G:Nod->List SV->Int ⊕ SV} (n:Nod) (k r:Tf):evF A G (cons n k r)=match evF A G (cons n k nil) with
 |.inl e=>.inl e
 |.inr us=>match evF A G r with
  |.inl e=>.inl e
  |.inr ws=>.inr (us++ws):=by
 simp only[evF]
 cases evF A G k with
 |inl e=>rfl
 |inr vs=>
  simp only
  cases evN A G n vs with
  |inl e=>rfl
  |inr v=>
   simp only
   cases evF A G r<;>rfl
theorem qEal {A:qBs->Option SV} {G:Nod->List SV->Int ⊕ SV} (hE:EA A G) {x0:Xe} (ht:x0.1.length<=20000) {ev:Xe->Int->Option ((Val×Int×Int×Unit)×(Xe×Unit))} {d:Nat} (hev:qNan A G x0 ev d) (m:Nod) :
 ∀ (k:Tf) (p:Nat) (rest:List Nod) (acc:List Val) (idx:Nat),x0.1.drop p=k.flat++rest->k.wf=true->(0:Int)∉k.srt->qVT k->k.dep<=d->((idx+k.len:Nat):Int)=m.2.2.2.2->acc.length+k.len<=100000->idx+k.len<=100000->
 match evF A G k with
 |.inl e=>∃ y,qPA (qOC ev) (x0,(p:Int),qHD,(0:Int),(0:Int),m,acc,(idx:Int),())=some (.ret,y)/\y.1=x0/\y.2.2.2.2.1=e
 |.inr vs=>∃ z,qPA (qOC ev) (x0,(p:Int),qHD,(0:Int),(0:Int),m,acc,(idx:Int),())=some (.exit 0,(x0,((p+k.size:Nat):Int),qHD,(0:Int),(0:Int),m,acc++vs.map encS,z)):=by
 intro k
 induction k with
 |nil=>
  intro p rest acc idx _ _ _ _ _ hK _ _
  simp only[evF]
  simp only[len,Nat.add_zero] at hK
  refine ⟨_,qTA (y:=(x0,(p:Int),qHD,(0:Int),(0:Int),m,acc++[],(idx:Int),())) ?_ (by simp)⟩
  unfold qOC
  simp only
  rw[qNA (by omega),qY4]
 |cons n k r ik ir=>
  intro p rest acc idx hd hw hs hn hdep hK h1 h2
  obtain ⟨w1,w2,w3,w4⟩:=qSH.1 hw
  obtain ⟨s1,s2,s3⟩:=qKJ.1 hs
  simp only[dep] at hdep
  simp only[len] at hK h1 h2
  simp only[flat,qY5,qZ1] at hd
  have hsing:=hev n k p (r.flat++rest) hd (qSH.2 ⟨w1,w2,w3,rfl⟩) (qKJ.2 ⟨s1,s2,by simp[srt]⟩) (fun x hx=>hn x (by simp only[flat,qY12,qZ7] at hx ⊢;rcases hx with h | h | h;exact .inl h;exact .inr (.inl h);cases h)) (by omega)
  have hlen:p+1+k.size+r.size+rest.length=x0.1.length:=by
   have:=congrArg List.length hd
   simp only[List.length_drop,qY11,qZ6,qNC] at this
   omega
  have hd':x0.1.drop (p+1+k.size)=r.flat++rest:=by
   have:=congrArg (List.drop (1+k.size)) hd
   rw[List.drop_drop] at this
   have e:p+(1+k.size)=p+1+k.size:=by omega
   rw[e] at this
   rw[this,Nat.add_comm 1,List.drop_succ_cons,List.drop_append_of_le_length (by rw[qNC];omega),qY7 (by rw[qNC];omega),qY15]
  rw[qJv]
  cases he:evF A G (cons n k nil) with
  |inl e=>
   rw[he] at hsing
   obtain ⟨v,j,hy⟩:=hsing
   simp only
   refine ⟨(x0,(p:Int),qHD,(0:Int),e,m,acc,(idx:Int),()),qTA ?_ (by simp),rfl,rfl⟩
   unfold qOC
   simp only
   rw[qIA (by omega),hy,qAA,qFE (qJag hE _ e he)]
  |inr us=>
   rw[he] at hsing
   match us,hsing with
   |[v],hsing=>
    simp only at hsing ⊢
    have hgo:qOC ev (x0,(p:Int),qHD,(0:Int),(0:Int),m,acc,(idx:Int),())=some (.normal,(x0,((p+1+k.size:Nat):Int),qHD,(0:Int),(0:Int),m,acc++[encS v],((idx+1:Nat):Int),())):=by
     unfold qOC
     simp only
     rw[qIA (by omega),hsing,qAA,qMD rfl,qBA (by simp[qCF];omega),w64 (by omega)]
     rfl
    have ihr:=ir (p+1+k.size) rest (acc++[encS v]) (idx+1) hd' w4 s3 (fun x hx=>hn x (by simp only[flat,qY12,qZ7];exact .inr (.inr hx))) (by omega) (by omega) (by simp;omega) (by omega)
    cases hr:evF A G r with
    |inl e=>
     rw[hr] at ihr
     obtain ⟨y,h,h'⟩:=ihr
     exact ⟨y,by rw[qAB hgo,h],h'⟩
    |inr ws=>
     rw[hr] at ihr
     simp only at ihr ⊢
     obtain ⟨z,ihr⟩:=ihr
     refine ⟨z,?_⟩
     rw[qAB hgo,ihr]
     have e:p+1+k.size+r.size=p+(cons n k r).size:=by simp only[size];omega
     rw[e]
     simp
theorem qXar {A:qBs->Option SV} {G:Nod->List SV->Int ⊕ SV} (hE:EA A G) {x0:Xe} (hM:RM A G x0.2.1 x0.2.2) (ht:x0.1.length<=360) :
 ∀ d,qNan A G x0 (qNE d) d:=by
 intro d
 induction d with
 |zero=>intro n k p rest _ _ _ _ h;omega
 |succ d ih=>
  intro n k p rest hd hw hs hn hdep
  obtain ⟨w1,w2,w3,w4⟩:=qSH.1 hw
  obtain ⟨s1,s2,s3⟩:=qKJ.1 hs
  obtain ⟨g1,g2⟩:=qKK (d:=qHF) hd
  have hnk:qVT k:=fun m hm=>hn m (by simp only[flat,qY12,qZ7];exact .inr (.inl hm))
  have hd':x0.1.drop (p+1)=k.flat++rest:=by
   have:=congrArg (List.drop 1) hd
   rw[List.drop_drop] at this
   simpa using this
  have hlen:p+1+k.size+rest.length=x0.1.length:=by
   have:=congrArg List.length hd
   simp only[List.length_drop,qY11,qZ6,qNC] at this
   omega
  have hkl:=qWK k
  have hK:n.2.2.2.2=(k.len:Int):=w2
  have hkids:=qEal hE (by omega) ih n k (p+1) rest [] 0 hd' w3 s1 hnk (by omega) (by rw[hK];simp) (by simp;omega) (by omega)
  have hwp:qI ((p:Int)+1)=((p+1:Nat):Int):=by rw[w64 (by omega)];rfl
  have hunf:qNE (d+1) x0 (p:Int)=qPI (qNE d) x0 (p:Int):=rfl
  rw[hunf]
  unfold qPI
  have hz:((0:Int),false,([]:qBs),([]:List qBs),([]:List qBs))=qHD:=rfl
  rw[qEA,qBA (by omega),qBA (by omega),qZ0,g1,hwp,hz]
  rw[show ((0:Nat):Int)=0 from rfl] at hkids
  simp only[evF]
  cases hk:evF A G k with
  |inl e=>
   rw[hk] at hkids
   obtain ⟨y,h,h1,h2⟩:=hkids
   simp only
   rw[h]
   simp only[qAA,qLD,qID,qOA,qWA]
   exact ⟨_,_,by rw[h1,h2]⟩
  |inr vs=>
   rw[hk] at hkids
   obtain ⟨e1,e2,e3⟩:=qWB hE k w3 s1 hnk vs hk
   obtain ⟨z,hkids⟩:=hkids
   simp only
   rw[hkids]
   simp only[qAA,qJB,qOA,qY15]
   have hvl:vs.length=k.len:=by
    have:=congrArg List.length e1
    rw[List.length_map,qQM] at this
    exact this
   unfold evN
   by_cases h4:nOp n=4
   ·rw[if_pos h4]
    have hnode:qME x0 n (vs.map encS)=some ((match (A (qDP n)) with | none=>(qHD,7,()) | some v=>if qWE v=qHG n then (encS v,0,()) else (qHD,3,())),(x0,())):=by
     unfold qME
     have hO:n.1=4:=h4
     rw[hz,qDA (by omega),qDA (by omega),qDA (by omega),qFA hO]
     have hv:=hM.var n.2.2.1
     have hA:A (qDP n)=A n.2.2.1:=rfl
     have key:=qEae x0 hM.len n x0.2.1.length 0 (by omega)
     rw[show ((0:Nat):Int)=0 from rfl,List.drop_zero] at key
     rw[hA]
     cases hf:x0.2.1.find? (fun b=>decide (b.1=n.2.2.1)) with
     |none=>
      rw[hf] at key hv
      obtain ⟨y,hy⟩:=key
      rw[hy]
      simp only[qAA,qJB,qOA]
      cases hAn:A n.2.2.1 with
      |none=>rfl
      |some v=>rw[hAn] at hv;cases hv
     |some b=>
      rw[hf] at key hv
      obtain ⟨y,hy⟩:=key
      rw[hy]
      simp only[qAA,qLD,qID,qOA,qWA]
      cases hAn:A n.2.2.1 with
      |none=>rw[hAn] at hv;cases hv
      |some v=>
       rw[hAn] at hv
       simp only[Option.map_some,Option.some.injEq] at hv
       rw[hv]
       simp only[qCR]
       by_cases q:qWE v=n.2.1
       ·rw[if_pos q,if_pos q,if_pos q]
       ·rw[if_neg q,if_neg q,if_neg q]
    rw[hnode]
    cases A (qDP n) with
    |none=>exact ⟨_,_,rfl⟩
    |some v=>
     simp only
     by_cases q:qWE v=qHG n
     ·rw[if_pos q,if_pos q]
      rfl
     ·rw[if_neg q,if_neg q]
      exact ⟨_,_,rfl⟩
   ·rw[if_neg h4]
    by_cases h5:nOp n=5
    ·rw[if_pos h5]
     have hnode:qME x0 n (vs.map encS)=some ((match G n vs with | .inl e=>(qHD,e,()) | .inr v=>(encS v,0,())),(x0,())):=by
      unfold qME
      have hO:n.1=5:=h5
      have hc:=hM.call x0.1 n vs _ e3 (by omega)
      rw[qDA (by omega),qDA (by omega),qDA (by omega),qDA (by omega),qFA hO]
      have hx:(x0.1,x0.2.1,x0.2.2)=x0:=rfl
      rw[hx] at hc
      rw[hc,qAA]
     rw[hnode]
     cases G n vs with
     |inl e=>exact ⟨_,_,rfl⟩
     |inr v=>rfl
    ·rw[if_neg h5]
     obtain ⟨f1,f2⟩:=qPV.1 w1
     rw[qSah (x0:=x0) (f:=op1 k) f1 h4 h5 (by rw[hvl,<-w2];exact f2) (by rw[e1];exact s2) e2 e3 (by omega) (qUu (hn n (by simp[flat]))) (by omega)]
     rfl
theorem qLat {t:List Nod} {env:List qSJ} (hv:∀ b∈env,qMF b.2=true) (he:env.length<=1000000000):RM (qMs env) G0 env []:=by
 refine ⟨fun nm=>?_,he,fun t n vs B _ _=>?_⟩
 ·unfold qMs
  cases hf:env.find? (fun b=>decide (b.1=nm)) with
  |none=>rfl
  |some b=>
   obtain ⟨s,s1,s2,s3⟩:=qCd (hv b (List.mem_of_find?_eq_some hf))
   rw[Option.map_some,Option.bind_some,s1,s3]
   rfl
 ·unfold qMJ
  have hz:((0:Int),false,([]:qBs),([]:List qBs),([]:List qBs))=qHD:=rfl
  rw[hz,qTA (y:=(((t,env,([]:List Interp)):Xe),vs.map encS,n,qHD,(0:Int),(0:Int),())) (e:=.exit 0) (by unfold qAK;simp only;rw[qNA (by simp)]) (by simp)]
  simp only[qAA,qJB,qOA]
  rfl
theorem qTaf {t:List Nod} {env:List qSJ} (ht:qQk t) (hl:t.length<=360) (hs:∀ b∈env,SmallV b.2) (he:env.length<=1000000000):qMq t env []=some (((qRa t env).1,(qRa t env).2,()),()):=by
 unfold qMq
 obtain ⟨b,b1,b2⟩:=qCX (t:=t) fun n hn=>by have:=ht n hn;omega
 rw[b1,qAA]
 cases b with
 |false=>rw[qQU fun h=>by have:=b2.2 h.2;cases this];rfl
 |true=>
  simp only[qY2,qWA]
  obtain ⟨F,hF⟩:=b2.1 rfl
  have hz:((0:Int),false,([]:qBs),([]:List qBs),([]:List qBs))=qHD:=rfl
  have key:=qKI (step:=qKU) (fun k=>(t,env,([]:List Interp),qHD,(0:Int),(k:Int),())) (fun k=>(t,env,([]:List Interp),qHD,(1:Int),(k:Int),())) env.length (E:=.exit 0) (B:=.ret) (by simp) (by simp) (fun k=>qMF (env.getD k qXR).2) (fun k hk=>by
   unfold qKU
   simp only
   have hm:(env.getD k qXR)∈env:=by
    have:env.getD k qXR=env[k]:=by simp[qZ4,hk]
    rw[this];exact List.getElem_mem hk
   rw[qIA (by omega),qEA,qBA (by omega),qBA (by omega),qZ0,qSS (N:=73) (by omega) (hs _ hm).sh,qAA,w64 (by omega)]
   cases qMF (env.getD k qXR).2<;>rfl) (by
   unfold qKU
   simp only
   rw[qNA (by omega)])
  rw[qWN env qXR (fun b=>qMF b.2)] at key
  rw[show ((0:Nat):Int)=0 from rfl] at key
  rw[hz]
  rcases key with ⟨k1,k2⟩ | ⟨k1,k,k2⟩
  ·have hv:∀ b∈env,qMF b.2=true:=fun b hb=>List.all_eq_true.1 k1 b hb
   rw[k2]
   simp only[qAA,qJB,qOA]
   rw[qTA (y:=(t,env,([]:List Interp),qHD,(0:Int),(0:Int),())) (e:=.exit 2) (by unfold qMi;simp only;rw[qNA (by simp)]) (by simp)]
   simp only[qAA,qJB,qOA]
   rw[qXn hv hF]
   obtain ⟨n,k,rfl⟩:=hF.one
   have hE:=qIah hs
   have hM:=qLat (t:=t) hv he
   have hfl:=hF.flat
   obtain ⟨d,hd1,hd2⟩:=qFw
   have hdep:=hF.dep
   simp only[dep] at hdep
   have hsF:qVT (cons n k nil):=fun m hm=>ht m (by rw[<-hfl];exact hm)
   have hev:=qXar hE (x0:=(t,env,[])) hM hl d n k 0 [] (by rw[<-hfl];simp[flat]) hF.wf hF.srt hsF (by omega)
   rw[hd1]
   rw[show ((0:Nat):Int)=0 from rfl] at hev
   rcases qHs (A:=qMs env) (G:=G0) (n:=n) (k:=k) with ⟨e,hv⟩ | ⟨v,hv⟩
   ·rw[hv] at hev ⊢
    obtain ⟨v,j,hy⟩:=hev
    rw[hy,qAA,qFE (qJag hE _ _ hv)]
   ·rw[hv] at hev ⊢
    simp only at hev ⊢
    rw[hev,qAA,qMD rfl]
    obtain ⟨_,_,q3⟩:=qWB hE _ hF.wf hF.srt hsF _ hv
    have hz:(cons n k nil).size<=360:=by rw[<-qNC,hfl];exact hl
    have hB:=q3.mem v (by simp)
    unfold qEY
    have h1:(encS v).2.2.2.1.length<=qCF/\(encS v).2.2.2.2.length<=qCF:=by
     cases v with
     |a d P=>have:=hB.2.2;simp only[encS,qEE,qRI,qCF];omega
     |b x=>simp[encS]
     |z x=>simp[encS]
     |q x=>simp[encS]
    rw[qBA h1.1,qBA h1.2,qAA]
  ·rw[k2]
   simp only[qAA,qLD,qID,qOA,qWA]
   rw[qQU fun h=>by rw[List.all_eq_true.2 h.1] at k1;cases k1]
theorem qUae {t:List Nod} {env:List qSJ} (ht:qQk t) (hl:t.length<=1100) (hs:∀ b∈env,SmallV b.2):(qRa t env).1.2.2.2.1.length<=2000000000/\(qRa t env).1.2.2.2.2.length<=2000000000:=by
 by_cases h:(∀ b∈env,qMF b.2=true)/\∃ F,VT t F
 ·obtain ⟨hv,F,hF⟩:=h
  rw[qXn hv hF]
  have hE:=qIah hs
  have hfl:=hF.flat
  obtain ⟨n,k,rfl⟩:=hF.one
  rcases qHs (A:=qMs env) (G:=G0) (n:=n) (k:=k) with ⟨e,hv⟩ | ⟨v,hv⟩
  ·rw[hv];simp[qHD]
  ·rw[hv]
   simp only
   have hsF:qVT (cons n k nil):=fun m hm=>ht m (by rw[<-hfl];exact hm)
   obtain ⟨_,_,q3⟩:=qWB hE _ hF.wf hF.srt hsF _ hv
   have hz:(cons n k nil).size<=1100:=by rw[<-qNC,hfl];exact hl
   have hB:=q3.mem v (by simp)
   cases v with
   |a d P=>have:=hB.2.2;simp only[encS,qEE,qRI];omega
   |b x=>simp[encS]
   |z x=>simp[encS]
   |q x=>simp[encS]
 ·rw[qQU h];simp[qHD]
theorem qAq {t:List Nod} {env:List qSJ} (ht:qQk t) (hl:t.length<=360) (hs:∀ b∈env,SmallV b.2) (he:env.length<=1000000000):qXI t env []=some ((true,()),()):=by
 have h1:=qUab ht (by omega) hs he
 have h2:=qTaf ht hl hs he
 have h3:=qUae (t:=t) ht (by omega) hs
 have h4:=qDS (a:=(qRa t env).1) (b:=(qRa t env).1) h3.1 h3.2
 unfold qXI qXr qLu
 rw[h1,h2]
 simp only[qAA]
 rw[qFA rfl,h4,qZ10 rfl]
 simp only[qAA,qOA]
 by_cases e:(qRa t env).2=0
 ·rw[qFA e]
  by_cases e1:(qRa t env).1.1=1
  ·rw[qFA e1,qAA,qAA]
   simp
  ·rw[qDA e1];rfl
 ·rw[qDA e];rfl
end Go.AM.Num
end
