/- Law ValueArithmetic of the values: a machine of plain values, what the program's functions compute in it, and what that is. No condition beyond what the statement says. -/
import Derived.Test.YtmckcoeongfmhaaGreatDoorValueArithmetic6
import Derived.Test.YtmckcoeongfmhaaGreatDoorValueArithmetic3
import Derived.Test.YtmckcoeongfmhaaGreatDoorValueArithmetic5
import Derived.Test.YtmckcoeongfmhaaGreatDoorRows
import Derived.Shelf.Vars
import Derived.Lib.LaidTab
import Derived.ProofKit
import Derived.MakeChecks
import Derived.OpenShut
import Derived.Lib.Strings
import Derived.SliceStrings
import Derived.SizedLaws
import Derived.Test.YtmckcoeongfmhaaGreatDoorCards
import Derived.Test.YtmckcoeongfmhaaGreatDoorTie
import Derived.ShutString
import Derived.ChangeOld
import Derived.Below
import Derived.LaidMore
import Derived.Deep.DeepHandedRow
import Derived.Deep.DeepWitnessRowRef
import GoSem.PinnedTables
set_option linter.unusedSimpArgs false
set_option linter.unusedVariables false
section
namespace Go.AM.Num
theorem qML {α:Type} (s:qBs) (x:α):∀ l,qGD s (qKa s x l)=some x:=by
 intro l
 induction l with
 |nil=>simp[qKa,qGD]
 |cons a l ih=>
  obtain ⟨k,y⟩:=a
  simp only[qKa]
  by_cases h:k=s
  ·rw[show (k==s)=true by simpa using h];simp[qGD,h]
  ·have hk:(k==s)=false:=by simpa using h
   rw[hk];simp[qGD,hk,ih]
theorem qBP {α:Type} {s t:qBs} (h:t≠s) (x:α):∀ l,qGD t (qKa s x l)=qGD t l:=by
 intro l
 have h2:(s==t)=false:=by simpa using fun e=>h e.symm
 induction l with
 |nil=>simp[qKa,qGD,h2]
 |cons a l ih=>
  obtain ⟨k,y⟩:=a
  simp only[qKa]
  by_cases hk:k=s
  ·subst hk;simp[qGD,h2]
  ·rw[show (k==s)=false by simpa using hk]
   simp only[qBB,qGD,ih]
namespace Tf
def subs:Tf->List (Nod×Tf)
 |nil=>[]
 |cons n k r=>(n,k)::(subs k++subs r)
theorem qOZ (f:Tf):f.subs.length=f.size:=by
 induction f with
 |nil=>rfl
 |cons n k r ik ir=>simp only[subs,size,qY11,qZ6,ik,ir]
theorem qPak (f:Tf):∀ (o p:Nat),p < f.size->∃ n k x rest rest2,f.subs[p]?=some (n,k)/\f.flat.drop p=n::(k.flat++rest)/\(info o f).drop p=x::(info (o+p+1) k++rest2):=by
 induction f with
 |nil=>intro o p h;simp[size] at h
 |cons n k r ik ir=>
  intro o p h
  cases p with
  |zero=>exact ⟨n,k,((if 0∈srt k then 0 else qTC n (op1 k) (srt k)),((dep k+1:Nat):Int),((o+1+size k:Nat):Int)),flat r,info (o+1+size k) r,rfl,rfl,rfl⟩
  |succ p=>
   simp only[size] at h
   by_cases hp:p < k.size
   ·obtain ⟨n',k',x,rest,rest2,h1,h2,h3⟩:=ik (o+1) p hp
    refine ⟨n',k',x,rest++r.flat,rest2++info (o+1+k.size) r,?_,?_,?_⟩
    ·simp only[subs,List.getElem?_cons_succ]
     rw[qY8 (by rw[qOZ];exact hp)]
     exact h1
    ·simp only[flat,List.drop_succ_cons]
     rw[List.drop_append_of_le_length (by rw[qXD];omega),h2]
     simp
    ·simp only[info,List.drop_succ_cons]
     rw[List.drop_append_of_le_length (by rw[qSJ];omega),h3]
     have e:o+1+p+1=o+(p+1)+1:=by omega
     simp[e]
   ·obtain ⟨n',k',x,rest,rest2,h1,h2,h3⟩:=ir (o+1+k.size) (p - k.size) (by omega)
    refine ⟨n',k',x,rest,rest2,?_,?_,?_⟩
    ·simp only[subs,List.getElem?_cons_succ]
     rw[qY9 (by rw[qOZ];omega),qOZ]
     exact h1
    ·simp only[flat,List.drop_succ_cons]
     rw[List.drop_append,qXD,qY7 (by rw[qXD];omega),h2]
     rfl
    ·simp only[info,List.drop_succ_cons]
     rw[List.drop_append,qSJ,qY7 (by rw[qSJ];omega),h3]
     have e:o+1+k.size+(p - k.size)+1=o+(p+1)+1:=by omega
     simp[e]
theorem qSak {f:Tf} (hw:f.wf=true) (hs:(0:Int)∉f.srt):∀ {n:Nod} {k:Tf},(n,k)∈f.subs->okN n=true/\qEF n=(k.len:Int)/\k.wf=true/\(0:Int)∉k.srt:=by
 induction f with
 |nil=>intro n k h;simp[subs] at h
 |cons m a b ia ib=>
  intro n k h
  obtain ⟨h1,h2,h3,h4⟩:=qFJ.1 hw
  obtain ⟨s1,s2,s3⟩:=qWM.1 hs
  simp only[subs,qY12,qZ7,Prod.mk.injEq] at h
  rcases h with ⟨rfl,rfl⟩ | h | h
  ·exact ⟨h1,h2,h3,s1⟩
  ·exact ia h3 s1 h
  ·exact ib h4 s3 h
theorem qRd {f:Tf}:∀ {n:Nod} {k:Tf},(n,k)∈f.subs->k.size < f.size:=by
 induction f with
 |nil=>intro n k h;simp[subs] at h
 |cons m a b ia ib=>
  intro n k h
  simp only[subs,qY12,qZ7,Prod.mk.injEq] at h
  simp only[size]
  rcases h with ⟨rfl,rfl⟩ | h | h
  ·omega
  ·have:=ia h;omega
  ·have:=ib h;omega
end Tf
open Tf
theorem qRac (t:List Nod) (P:List (Int×Sml)) (hP:P.length<=20000):∀ (k:Tf) (p:Nat) (out:List Int) (idx:Nat) (K:Int),(∃ rest,P.drop p=info p k++rest)->((idx+k.len:Nat):Int)=K->out.length+k.len<=100000->idx+k.len<=100000->
 qOA qOJ (some (t,P),out,(p:Int),K,(idx:Int),())=some (.exit 0,(some (t,P),out++rtf p k,((p+k.size:Nat):Int),K,K,())):=by
 intro k
 induction k with
 |nil=>
  intro p out idx K _ h1 _ _
  simp only[len,Nat.add_zero] at h1
  subst h1
  refine qWA ?_ (by simp)
  unfold qOJ
  simp only
  rw[qNA (by omega)]
  simp[rtf,size]
 |cons n k r ik ir=>
  intro p out idx K ⟨rest,hr⟩ h1 h2 h3
  simp only[info,qY5] at hr
  obtain ⟨g1,g2⟩:=qWL (d:=((0:Int),(0:Int),(0:Int))) hr
  simp only[len] at h1 h2 h3
  have hr':P.drop (p+1+size k)=info (p+1+size k) r++rest:=by
   have:=congrArg (List.drop (1+size k)) hr
   rw[List.drop_drop] at this
   have e:p+(1+size k)=p+1+size k:=by omega
   rw[e] at this
   rw[this,Nat.add_comm 1,List.drop_succ_cons,qZ1,List.drop_append_of_le_length (by rw[qSJ];omega)]
   have:(info (p+1) k).drop (size k)=[]:=qY7 (by rw[qSJ];omega)
   rw[this,qY15]
  rw[qAB (y:=(some (t,P),out++[(p:Int)],((p+1+size k:Nat):Int),K,((idx+1:Nat):Int),())) (by
   unfold qOJ
   simp only[Option.isSome_some,Option.getD_some]
   rw[qIA (by omega),qZ0,g1]
   rw[qBA (by simp[qXE];omega),qOT,qEA,qBA (by omega),qBA (by omega),w64 (x:=(idx:Int)+1) (by omega)]
   rfl)]
  rw[ir (p+1+size k) _ (idx+1) K ⟨rest,hr'⟩ (by omega) (by simp;omega) (by omega)]
  have e2:p+1+size k+size r=p+(cons n k r).size:=by simp only[size];omega
  rw[e2]
  simp only[rtf,qZ1,qY5,qY15]
theorem qOan {t:List Nod} {P:List (Int×Sml)} (hP:P.length<=20000) {p:Nat} {n:Nod} {k:Tf} {rest:List (Int×Sml)} (hp:p < t.length) (ht:t.getD p qSE=n) (hn:qEF n=(k.len:Int)) (hd:P.drop (p+1)=info (p+1) k++rest) (hk:k.size<=20000) (hpl:p<=20000) :
 qNP (some (t,P)) (p:Int)=some ((rtf (p+1) k,()),()):=by
 have hkl:=qBL k
 unfold qNP
 simp only[Option.isSome_some,Option.getD_some]
 rw[qOT,qEA,qBA (by omega),qBA (by omega),qZ0,ht,w64 (by omega)]
 have hK:n.2.2.2.2=(k.len:Int):=hn
 have:=qRac t P hP k (p+1) [] 0 (k.len:Int) ⟨rest,hd⟩ (by simp) (by simp;omega) (by omega)
 rw[hK]
 have e:((p+1:Nat):Int)=(p:Int)+1:=by omega
 rw[e] at this
 rw[show ((0:Nat):Int)=0 from rfl] at this
 rw[this]
 simp only[qAA,qDC,qPA,qY15]
theorem qTag (t:List Nod) (P:List (Int×Sml)) (hP:P.length<=20000) (t4:qBs×qCA) (nm:qBs) (s:Int):∀ (k:Tf) (p:Nat) (args pre:List Int),(∃ rest,P.drop p=info p k++rest)->args.length+k.len<=100000->pre.length+k.len<=100000->
 qOA t_view_signature_s3 (some (t,P),t4,(nm,args,s),pre++rtf p k,((pre++rtf p k).length:Int),(pre.length:Int),())=some (.exit 0,(some (t,P),t4,(nm,args++k.srt,s),pre++rtf p k,((pre++rtf p k).length:Int),((pre++rtf p k).length:Int),())):=by
 intro k
 induction k with
 |nil=>
  intro p args pre _ _ _
  refine qWA ?_ (by simp)
  unfold t_view_signature_s3
  simp only[rtf,qY4]
  rw[qNA (by omega)]
  simp[srt]
 |cons n k r ik ir=>
  intro p args pre ⟨rest,hr⟩ h2 h3
  simp only[info,qY5] at hr
  obtain ⟨g1,g2⟩:=qWL (d:=((0:Int),(0:Int),(0:Int))) hr
  simp only[len] at h2 h3
  have hr':P.drop (p+1+size k)=info (p+1+size k) r++rest:=by
   have:=congrArg (List.drop (1+size k)) hr
   rw[List.drop_drop] at this
   have e:p+(1+size k)=p+1+size k:=by omega
   rw[e] at this
   rw[this,Nat.add_comm 1,List.drop_succ_cons,qZ1,List.drop_append_of_le_length (by rw[qSJ];omega)]
   have:(info (p+1) k).drop (size k)=[]:=qY7 (by rw[qSJ];omega)
   rw[this,qY15]
  have ih:=ir (p+1+size k) (args++[if 0∈srt k then 0 else qTC n (op1 k) (srt k)]) (pre++[(p:Int)]) ⟨rest,hr'⟩ (by simp;omega) (by simp;omega)
  simp only[qZ1,qY5,qY15] at ih
  simp only[rtf,srt]
  rw[qAB (y:=(some (t,P),t4,(nm,args++[if 0∈srt k then 0 else qTC n (op1 k) (srt k)],s),pre++(p:Int)::rtf (p+1+size k) r,((pre++(p:Int)::rtf (p+1+size k) r).length:Int),((pre.length+1:Nat):Int),())) (by
   unfold t_view_signature_s3
   have e:(pre++(p:Int)::rtf (p+1+size k) r).getD pre.length 0=(p:Int):=by simp[qZ4]
   simp only[Option.isSome_some,Option.getD_some]
   rw[qIA (by simp;omega),qEA,qBA (by omega),qBA (by simp;omega),qOT,qZ0,e,qEA,qBA (by omega),qBA (by omega),qZ0,g1,qBA (by simp[qXE];omega),w64 (x:=(pre.length:Int)+1) (by omega)]
   rfl)]
  have e2:(pre++[(p:Int)]).length=pre.length+1:=by simp
  rw[e2] at ih
  rw[ih]
theorem qPar {t:List Nod} {P:List (Int×Sml)} (hP:P.length<=20000) {p:Nat} {n:Nod} {k:Tf} {rest:List (Int×Sml)} (hp:p < t.length) (ht:t.getD p qSE=n) (hn:qEF n=(k.len:Int)) (hd:P.drop (p+1)=info (p+1) k++rest) (hk:k.size<=20000) (hpl:p<=20000) :
 qTJ (some (t,P)) (p:Int)=some (((qAO n,k.srt,qQF n),()),()):=by
 have hkl:=qBL k
 unfold qTJ
 simp only[Option.isSome_some,Option.getD_some]
 rw[qOT,qEA,qBA (by omega),qBA (by omega),qOT,qEA,qBA (by omega),qBA (by omega),qZ0,ht,qOan hP hp ht hn hd hk hpl,qAA]
 have:=qTag t P hP (([]:qBs),([]:List Int),(0:Int)) n.2.2.1 n.2.1 k (p+1) [] [] ⟨rest,hd⟩ (by simp;omega) (by simp;omega)
 simp only[qY15,List.length_nil] at this
 rw[show ((0:Nat):Int)=0 from rfl] at this
 rw[this]
 simp only[qAA,qDC,qPA]
abbrev Us:=qBs×Bool×List Int×Int
def qGS (x:Nod×Tf):Option Us:=if nOp x.1=4 then some (qAO x.1,false,[],qQF x.1) else if nOp x.1=5 then some (qAO x.1,true,x.2.srt,qQF x.1) else none
def qSq (f:Tf):List Us:=f.subs.filterMap qGS
def Cns (us:List Us):Prop:=∀ a∈us,∀ b∈us,a.1=b.1->a=b
theorem Cns.mono {us vs:List Us} (h:Cns vs) (hs:∀ a∈us,a∈vs):Cns us:=fun a ha b hb e=>h a (hs a ha) b (hs b hb) e
structure NI (us:List Us) (vars:List (qBs×Vr)) (funcs:List (qBs×qBs×qCA)):Prop where
 cns:Cns us
 w:∀ a∈us,(a.2.1=false/\a.2.2.1=[])\/a.2.1=true
 v:∀ nm x,qGD nm vars=some x->x.1=nm/\(nm,false,[],x.2)∈us
 v':∀ nm s,(nm,false,[],s)∈us->(qGD nm vars).isSome=true
 f:∀ nm x,qGD nm funcs=some x->x.1=nm/\(nm,true,x.2.1,x.2.2)∈us
 f':∀ nm a s,(nm,true,a,s)∈us->(qGD nm funcs).isSome=true
theorem NI.nil:NI [] [] []:=⟨fun a h=>absurd h qY16,fun a h=>absurd h qY16,fun nm x h=>(by simp[qGD] at h),fun nm s h=>absurd h qY16,fun nm x h=>(by simp[qGD] at h),fun nm a s h=>absurd h qY16⟩
theorem NI.fresh {us:List Us} {vars:List (qBs×Vr)} {funcs:List (qBs×qBs×qCA)} (h:NI us vars funcs) {nm:qBs} (h1:qGD nm vars=none) (h2:qGD nm funcs=none):∀ a∈us,a.1≠nm:=by
 rintro ⟨m,b,l,s⟩ ha e
 simp only at e
 subst e
 rcases h.w _ ha with ⟨e1,e2⟩ | e1
 ·simp only at e1 e2;subst e1;subst e2
  have:=h.v' _ _ ha
  rw[h1] at this;cases this
 ·simp only at e1;subst e1
  have:=h.f' _ _ _ ha
  rw[h2] at this;cases this
theorem qQk {us:List Us} {u:Us} (h:Cns us) (hu:∀ a∈us,a.1=u.1->a=u):Cns (us++[u]):=by
 intro a ha b hb e
 rcases List.mem_append.1 ha with ha1 | ha1
 ·rcases List.mem_append.1 hb with hb1 | hb1
  ·exact h a ha1 b hb1 e
  ·rw[qZ8] at hb1
   rw[hb1] at e ⊢
   exact hu a ha1 e
 ·rw[qZ8] at ha1
  rw[ha1] at e ⊢
  rcases List.mem_append.1 hb with hb1 | hb1
  ·exact (hu b hb1 e.symm).symm
  ·rw[qZ8] at hb1;exact hb1.symm
theorem NI.addV {us:List Us} {vars:List (qBs×Vr)} {funcs:List (qBs×qBs×qCA)} (h:NI us vars funcs) {nm:qBs} {s:Int} (h1:qGD nm vars=none) (h2:qGD nm funcs=none):NI (us++[(nm,false,[],s)]) (qKa nm (nm,s) vars) funcs:=by
 have hf:=h.fresh h1 h2
 refine ⟨qQk h.cns fun a ha e=>absurd e (hf a ha),fun a ha=>?_,fun m x hx=>?_,fun m x hx=>?_,fun m x hx=>?_,fun m a x hx=>?_⟩
 ·rcases List.mem_append.1 ha with ha | ha
  ·exact h.w a ha
  ·rw[qZ8] at ha;subst ha;exact .inl ⟨rfl,rfl⟩
 ·by_cases e:m=nm
  ·subst e;rw[qML] at hx;cases hx;exact ⟨rfl,by simp⟩
  ·rw[qBP e] at hx
   obtain ⟨a1,a2⟩:=h.v m x hx
   exact ⟨a1,List.mem_append_left _ a2⟩
 ·by_cases e:m=nm
  ·subst e;rw[qML];rfl
  ·rw[qBP e]
   rcases List.mem_append.1 hx with hx | hx
   ·exact h.v' m x hx
   ·rw[qZ8] at hx;cases hx;exact absurd rfl e
 ·obtain ⟨a1,a2⟩:=h.f m x hx
  exact ⟨a1,List.mem_append_left _ a2⟩
 ·rcases List.mem_append.1 hx with hx | hx
  ·exact h.f' m a x hx
  ·rw[qZ8] at hx;cases hx
theorem NI.addF {us:List Us} {vars:List (qBs×Vr)} {funcs:List (qBs×qBs×qCA)} (h:NI us vars funcs) {nm:qBs} {l:List Int} {s:Int} (h1:qGD nm vars=none) (h2:qGD nm funcs=none):NI (us++[(nm,true,l,s)]) vars (qKa nm (nm,l,s) funcs):=by
 have hf:=h.fresh h1 h2
 refine ⟨qQk h.cns fun a ha e=>absurd e (hf a ha),fun a ha=>?_,fun m x hx=>?_,fun m x hx=>?_,fun m x hx=>?_,fun m a x hx=>?_⟩
 ·rcases List.mem_append.1 ha with ha | ha
  ·exact h.w a ha
  ·rw[qZ8] at ha;subst ha;exact .inr rfl
 ·obtain ⟨a1,a2⟩:=h.v m x hx
  exact ⟨a1,List.mem_append_left _ a2⟩
 ·rcases List.mem_append.1 hx with hx | hx
  ·exact h.v' m x hx
  ·rw[qZ8] at hx;cases hx
 ·by_cases e:m=nm
  ·subst e;rw[qML] at hx;cases hx;exact ⟨rfl,by simp⟩
  ·rw[qBP e] at hx
   obtain ⟨a1,a2⟩:=h.f m x hx
   exact ⟨a1,List.mem_append_left _ a2⟩
 ·by_cases e:m=nm
  ·subst e;rw[qML];rfl
  ·rw[qBP e]
   rcases List.mem_append.1 hx with hx | hx
   ·exact h.f' m a x hx
   ·rw[qZ8] at hx;cases hx;exact absurd rfl e
theorem NI.again {us:List Us} {vars:List (qBs×Vr)} {funcs:List (qBs×qBs×qCA)} (h:NI us vars funcs) {u:Us} (hu:u∈us):NI (us++[u]) vars funcs:=by
 have hm:∀ a,a∈us++[u] ↔ a∈us:=fun a=>by
  rw[qZ7,qZ8]
  exact ⟨fun h=>h.elim id fun e=>e ▸ hu,.inl⟩
 exact ⟨qQk h.cns fun a ha e=>h.cns a ha u hu e,fun a ha=>h.w a ((hm a).1 ha),fun m x hx=>⟨(h.v m x hx).1,(hm _).2 (h.v m x hx).2⟩,fun m s hx=>h.v' m s ((hm _).1 hx),fun m x hx=>⟨(h.f m x hx).1,(hm _).2 (h.f m x hx).2⟩,fun m a s hx=>h.f' m a s ((hm _).1 hx)⟩
end Go.AM.Num
end
section
namespace Go.AM.Num
open Tf
theorem qFaa {a b:List Int} (ha:a.length<=2000000000):qKG a b=some ((decide (a=b),()),()):=by
 unfold qKG
 by_cases hl:a.length=b.length
 ·rw[qDE (by omega)]
  have:=qOL (step:=qWD) (fun k=>(a,b,false,(a.length:Int),(k:Int),())) (fun k=>(a,b,false,(a.length:Int),(k:Int),())) a.length (E:=.exit 0) (B:=.ret) (by simp) (by simp) (fun k=>decide (a.getD k 0=b.getD k 0)) (fun k hk=>by
   unfold qWD
   simp only
   rw[qIA (by omega),qEA,qBA (by omega),qBA (by omega),qEA,qBA (by omega),qBA (by omega),qZ0,w64 (by omega)]
   by_cases h:a.getD k 0=b.getD k 0
   ·rw[qDE h,if_pos (qZ10 h)];rfl
   ·rw[qVE h,if_neg (fun e=>h (of_decide_eq_true e))]) (by
   unfold qWD
   simp only
   rw[qNA (by omega)])
  rw[show ((0:Nat):Int)=0 from rfl] at this
  have heq:(List.range a.length).all (fun k=>decide (a.getD k 0=b.getD k 0))=decide (a=b):=by
   rw[Bool.eq_iff_iff,qY3,decide_eq_true_eq]
   constructor
   ·intro h
    refine List.ext_getElem hl fun k h1 h2=>?_
    have:=h k (List.mem_range.2 h1)
    simpa [qZ4,h1,h2] using this
   ·rintro rfl k _;simp
  rcases this with ⟨h1,h2⟩ | ⟨h1,k,h2⟩
  ·rw[h2,<-heq,h1];simp only[qAA,qDC,qPA]
  ·rw[h2,<-heq,h1];simp only[qAA,qCF,qBF,qPA,qBB]
 ·rw[qVE (by omega),qZ9 (fun e=>hl (by rw[e]))]
theorem qKo {f g:qBs×qCA} (h:f.2.1.length<=2000000000):qUn f g=some ((decide (f=g),()),()):=by
 obtain ⟨a,l,s⟩:=f
 obtain ⟨b,m,u⟩:=g
 simp only at h
 unfold qUn
 simp only[qFaa h,qAA]
 by_cases h1:a=b
 ·rw[show (a==b)=true by simpa using h1,qPA]
  by_cases h2:s=u
  ·rw[qHA h2];simp[h1,h2]
  ·rw[qDA h2,qZ9 (fun e=>h2 (by cases e;rfl))]
 ·rw[show (a==b)=false by simpa using h1,qBB,qZ9 (fun e=>h1 (by cases e;rfl))]
section
variable {F:Tf} {t:List Nod} {P:List (Int×Sml)}
abbrev qCU (F:Tf) (p:Nat):List Us:=(F.subs.take p).filterMap qGS
theorem qSZ {p:Nat}:∀ a∈qCU F p,a∈qSq F:=by
 intro a ha
 simp only[qCU,qSq,List.mem_filterMap] at ha ⊢
 obtain ⟨x,h1,h2⟩:=ha
 exact ⟨x,List.mem_of_mem_take h1,h2⟩
theorem qFi {p:Nat} {n:Nod} {k:Tf} (h:F.subs[p]?=some (n,k)):qCU F (p+1)=qCU F p++(qGS (n,k)).toList:=by
 simp only[qCU,List.take_add_one,h,Option.toList_some,List.filterMap_append]
 cases hu:qGS (n,k)<;>simp[hu]
theorem qDv (hF:F.flat=t) (hw:F.wf=true) (hs:(0:Int)∉F.srt) (hz:F.size<=20000) (hP:P=info 0 F) {p:Nat} (hp:p < F.size) {vars:List (qBs×Vr)} {funcs:List (qBs×qBs×qCA)} {l0:List Vr} {m0:List (qBs×qCA)}
 (hI:NI (qCU F p) vars funcs) (hl:l0.length<=p) (hm:m0.length<=p) :
 (¬ Cns (qCU F (p+1))/\∃ x,qTE (some (t,P),([]:List Vr),([]:List (qBs×qCA)),false,vars,funcs,l0,m0,t,(t.length:Int),(p:Int),())=some (.ret,(some (t,P),([]:List Vr),([]:List (qBs×qCA)),false,x)))\/
 ∃ vars' funcs' l' m',NI (qCU F (p+1)) vars' funcs'/\l'.length<=p+1/\m'.length<=p+1/\qTE (some (t,P),([]:List Vr),([]:List (qBs×qCA)),false,vars,funcs,l0,m0,t,(t.length:Int),(p:Int),())=some (.normal,(some (t,P),([]:List Vr),([]:List (qBs×qCA)),false,vars',funcs',l',m',t,(t.length:Int),((p+1:Nat):Int),())):=by
 obtain ⟨n,k,x,rest,rest2,h1,h2,h3⟩:=qPak F 0 p hp
 obtain ⟨g1,g2⟩:=qWL (d:=qSE) h2
 have hmem:(n,k)∈F.subs:=qY14 h1
 obtain ⟨w1,w2,w3,w4⟩:=qSak hw hs hmem
 have hks:=qRd hmem
 have htl:t.length=F.size:=by rw[<-hF,qXD]
 have hPl:P.length=F.size:=by rw[hP,qSJ]
 rw[hF] at g1
 have hd:P.drop (p+1)=info (p+1) k++rest2:=by
  have:=congrArg (List.drop 1) h3
  rw[List.drop_drop] at this
  rw[hP]
  simpa using this
 have hwp:qI ((p:Int)+1)=((p+1:Nat):Int):=by rw[w64 (by omega)];rfl
 have hT:=qFi h1
 unfold qTE
 simp only
 rw[qIA (by omega),qEA,qBA (by omega),qBA (by omega),qZ0,g1,hwp]
 by_cases e4:n.1=4
 ·have hu:qGS (n,k)=some (n.2.2.1,false,[],n.2.1):=by unfold qGS;rw[if_pos e4]
  rw[hu] at hT
  rw[qHA e4]
  cases hv:qGD n.2.2.1 vars with
  |none=>
   simp only[Option.isSome_none,qY1,qPA]
   rw[qBA (by simp[qXE];omega)]
   cases hf:qGD n.2.2.1 funcs with
   |none=>
    simp only[Option.isSome_none,qBB]
    rw[qDE rfl]
    exact .inr ⟨_,_,_,_,by rw[hT];exact hI.addV hv hf,by simp;omega,by omega,rfl⟩
   |some g=>
    simp only[Option.isSome_some,qPA]
    refine .inl ⟨fun hc=>?_,_,rfl⟩
    obtain ⟨a1,a2⟩:=hI.f _ _ hf
    rw[hT] at hc
    have:=hc _ (List.mem_append_left _ a2) (n.2.2.1,false,[],n.2.1) (by simp) rfl
    simp at this
  |some y=>
   simp only[Option.isSome_some,qY2,qBB,Option.getD_some]
   obtain ⟨b1,b2⟩:=hI.v _ _ hv
   cases hf:qGD n.2.2.1 funcs with
   |none=>
    simp only[Option.isSome_none,qBB]
    by_cases q:y.2=n.2.1
    ·rw[qDE q]
     rw[q] at b2
     exact .inr ⟨_,_,_,_,by rw[hT];exact hI.again b2,by omega,by omega,rfl⟩
    ·rw[qVE q]
     refine .inl ⟨fun hc=>?_,_,rfl⟩
     rw[hT] at hc
     have:=hc _ (List.mem_append_left _ b2) (n.2.2.1,false,[],n.2.1) (by simp) rfl
     simp at this
     exact q this
   |some g=>
    simp only[Option.isSome_some,qPA]
    refine .inl ⟨fun hc=>?_,_,rfl⟩
    obtain ⟨a1,a2⟩:=hI.f _ _ hf
    rw[hT] at hc
    have:=hc _ (List.mem_append_left _ a2) (n.2.2.1,false,[],n.2.1) (by simp) rfl
    simp at this
 ·rw[qDA e4]
  by_cases e5:n.1=5
  ·have hu:qGS (n,k)=some (n.2.2.1,true,k.srt,n.2.1):=by unfold qGS;rw[if_neg e4,if_pos e5]
   rw[hu] at hT
   rw[qHA e5,qPar (by omega) (by omega) g1 w2 hd (by omega) (by omega),qAA]
   have hkl:k.srt.length<=2000000000:=by rw[qDM];have:=qBL k;omega
   simp only
   cases hf:qGD n.2.2.1 funcs with
   |none=>
    simp only[Option.isSome_none,qY1,qPA]
    rw[qBA (by simp[qXE];omega)]
    cases hv:qGD n.2.2.1 vars with
    |none=>
     simp only[Option.isSome_none,qBB]
     rw[qKo hkl,qAA,qZ10 rfl]
     simp only[qY2,qBB]
     exact .inr ⟨_,_,_,_,by rw[hT];exact hI.addF hv hf,by omega,by simp;omega,rfl⟩
    |some y=>
     simp only[Option.isSome_some,qPA]
     refine .inl ⟨fun hc=>?_,_,rfl⟩
     obtain ⟨a1,a2⟩:=hI.v _ _ hv
     rw[hT] at hc
     have:=hc _ (List.mem_append_left _ a2) (n.2.2.1,true,k.srt,n.2.1) (by simp) rfl
     simp at this
   |some g=>
    simp only[Option.isSome_some,qY2,qBB,Option.getD_some]
    obtain ⟨b1,b2⟩:=hI.f _ _ hf
    cases hv:qGD n.2.2.1 vars with
    |none=>
     simp only[Option.isSome_none,qBB]
     obtain ⟨gn,gl,gs⟩:=g
     simp only at b1 b2
     have hgl:gl.length<=2000000000:=by
      obtain ⟨⟨n',k'⟩,m1,m2⟩:=List.mem_filterMap.1 (qSZ _ b2)
      unfold qGS at m2
      split at m2
      ·simp at m2
      ·split at m2
       ·simp only[Option.some.injEq,Prod.mk.injEq] at m2
        rw[<-m2.2.2.1,qDM]
        have:=qRd m1;have:=qBL k';omega
       ·cases m2
     rw[qKo hgl,qAA]
     by_cases q:(gn,gl,gs)=(qAO n,k.srt,qQF n)
     ·rw[qZ10 q]
      simp only[qY2,qBB]
      simp only[Prod.mk.injEq] at q
      rw[q.2.1,q.2.2] at b2
      exact .inr ⟨_,_,_,_,by rw[hT];exact hI.again b2,by omega,by omega,rfl⟩
     ·rw[qZ9 q]
      simp only[qY1,qPA]
      refine .inl ⟨fun hc=>?_,_,rfl⟩
      rw[hT] at hc
      have:=hc _ (List.mem_append_left _ b2) (n.2.2.1,true,k.srt,n.2.1) (by simp) rfl
      simp only[Prod.mk.injEq,true_and] at this
      exact q (by rw[b1,this.1,this.2])
    |some y=>
     simp only[Option.isSome_some,qPA]
     refine .inl ⟨fun hc=>?_,_,rfl⟩
     obtain ⟨a1,a2⟩:=hI.v _ _ hv
     rw[hT] at hc
     have:=hc _ (List.mem_append_left _ a2) (n.2.2.1,true,k.srt,n.2.1) (by simp) rfl
     simp at this
  ·have hu:qGS (n,k)=none:=by unfold qGS;rw[if_neg e4,if_neg e5]
   rw[hu] at hT
   rw[qDA e5]
   exact .inr ⟨_,_,_,_,by rw[hT];simpa using hI,by omega,by omega,rfl⟩
theorem qNv (hF:F.flat=t) (hw:F.wf=true) (hs:(0:Int)∉F.srt) (hz:F.size<=20000) (hP:P=info 0 F):∀ (m p:Nat) (vars:List (qBs×Vr)) (funcs:List (qBs×qBs×qCA)) (l0:List Vr) (m0:List (qBs×qCA)),p+m=F.size->
 NI (qCU F p) vars funcs->l0.length<=p->m0.length<=p->
 (¬ Cns (qSq F)/\∃ x,qOA qTE (some (t,P),([]:List Vr),([]:List (qBs×qCA)),false,vars,funcs,l0,m0,t,(t.length:Int),(p:Int),())=some (.ret,(some (t,P),([]:List Vr),([]:List (qBs×qCA)),false,x)))\/
 (Cns (qSq F)/\∃ x,qOA qTE (some (t,P),([]:List Vr),([]:List (qBs×qCA)),false,vars,funcs,l0,m0,t,(t.length:Int),(p:Int),())=some (.exit 0,(some (t,P),([]:List Vr),([]:List (qBs×qCA)),false,x))):=by
 have htl:t.length=F.size:=by rw[<-hF,qXD]
 intro m
 induction m with
 |zero=>
  intro p vars funcs l0 m0 hp hI _ _
  refine .inr ⟨?_,_,qWA (by unfold qTE;simp only;rw[qNA (by omega)]) (by simp)⟩
  have e:qCU F p=qSq F:=by unfold qCU qSq;rw[List.take_of_length_le (by rw[qOZ];omega)]
  rw[<-e];exact hI.cns
 |succ m ih=>
  intro p vars funcs l0 m0 hp hI hl hm
  rcases qDv hF hw hs hz hP (p:=p) (by omega) hI hl hm with ⟨h1,x,h2⟩ | ⟨vars',funcs',l',m',h1,h2,h3,h4⟩
  ·exact .inl ⟨fun hc=>h1 (hc.mono qSZ),x,qWA h2 (by simp)⟩
  ·rw[qAB h4]
   exact ih (p+1) vars' funcs' l' m' (by omega) h1 h2 h3
theorem qQv (hF:F.flat=t) (hw:F.wf=true) (hs:(0:Int)∉F.srt) (hz:F.size<=20000):(Cns (qSq F)/\∃ l m,qSM (some (t,info 0 F))=some ((l,m,true,()),()))\/(¬ Cns (qSq F)/\qSM (some (t,info 0 F))=some (([],[],false,()),())):=by
 unfold qSM
 simp only[Option.isSome_some,Option.getD_some]
 rw[qOT]
 rcases qNv hF hw hs hz rfl F.size 0 [] [] [] [] (by omega) NI.nil (by simp) (by simp) with ⟨h1,x,h2⟩ | ⟨h1,x,h2⟩
 ·rw[show ((0:Nat):Int)=0 from rfl] at h2
  rw[h2]
  simp only[qAA,qCF,qBF,qPA,qBB]
  exact .inr ⟨h1,by first | rfl | trivial⟩
 ·rw[show ((0:Nat):Int)=0 from rfl] at h2
  rw[h2]
  simp only[qAA,qDC,qPA]
  exact .inl ⟨h1,_,_,rfl⟩
end
structure VT (t:List Nod) (F:Tf):Prop where
 flat:F.flat=t
 wf:F.wf=true
 srt:(0:Int)∉F.srt
 len:F.len=1
 size:F.size<=20000
 dep:F.dep<=257
 cns:Cns (qSq F)
theorem VT.one {t:List Nod} {F:Tf} (h:VT t F):∃ n k,F=cons n k nil:=by
 have:=h.len
 cases F with
 |nil=>simp[Tf.len] at this
 |cons n k r=>
  cases r with
  |nil=>exact ⟨n,k,rfl⟩
  |cons a b c=>simp only[Tf.len] at this;omega
theorem VT.bkp {t:List Nod} {F:Tf} (h:VT t F):bkp t=some F:=qLal.2 ⟨h.flat,h.wf,h.srt⟩
theorem VT.uniq {t:List Nod} {F G:Tf} (h:VT t F) (g:VT t G):F=G:=by
 have:=h.bkp;rw[g.bkp] at this;exact (Option.some.inj this).symm
theorem qXx {t:List Nod} (hs:qTQ t):(∃ F,VT t F/\qLa t=some ((some (t,info 0 F),true,()),()))\/((¬ ∃ F,VT t F)/\qLa t=some ((none,false,()),())):=by
 unfold qLa
 by_cases h0:t.length=0
 ·rw[qHA (by omega)]
  refine .inr ⟨fun ⟨F,hF⟩=>?_,rfl⟩
  obtain ⟨n,k,e⟩:=hF.one
  have:=hF.flat
  rw[e] at this
  rw[<-this] at h0
  simp[Tf.flat] at h0
 rw[qDA (by omega)]
 by_cases h1:t.length > 20000
 ·rw[qIA (by omega)]
  refine .inr ⟨fun ⟨F,hF⟩=>?_,rfl⟩
  have:=hF.size
  have h2:=qXD F
  rw[hF.flat] at h2
  omega
 rw[qNA (by omega),qBaf hs (by omega),qAA]
 cases hb:bkp t with
 |none=>exact .inr ⟨fun ⟨F,hF⟩=>(by rw[hF.bkp] at hb;cases hb),rfl⟩
 |some F=>
  obtain ⟨f1,f2,f3⟩:=qEe hb
  have hz:F.size<=20000:=by rw[<-qXD,f1];omega
  simp only
  by_cases hl:F.len=1
  ·rw[qZ10 hl]
   simp only[qY2,qBB]
   obtain ⟨n,k,e⟩:∃ n k,F=cons n k nil:=by
    cases F with
    |nil=>simp[Tf.len] at hl
    |cons n k r=>
     cases r with
     |nil=>exact ⟨n,k,rfl⟩
     |cons a b c=>simp only[Tf.len] at hl;omega
   have hlarge:qGQ (some (t,info 0 F))=some ((decide (F.dep > 257),()),()):=by
    unfold qGQ
    simp only[Option.isSome_some,Option.getD_some]
    rw[qOT,qNA (by omega),qOT,e]
    have hd:(cons n k nil).dep=k.dep+1:=by simp only[Tf.dep];omega
    have hg:((info 0 (cons n k nil)).getD (0:Int).toNat ((0:Int),(0:Int),(0:Int))).2.1=((k.dep+1:Nat):Int):=rfl
    rw[qEA,qBA (by omega),qBA (by rw[qSJ];simp only[Tf.size];omega),hd]
    have e2:decide (((info 0 (cons n k nil)).getD (0:Int).toNat ((0:Int),(0:Int),(0:Int))).2.1 > 257)=decide (k.dep+1 > 257):=by rw[decide_eq_decide,hg];omega
    rw[e2]
   rw[hlarge,qAA]
   by_cases hd:F.dep > 257
   ·rw[qZ10 hd]
    refine .inr ⟨fun ⟨G,hG⟩=>?_,rfl⟩
    have:=hG.bkp
    rw[hb] at this
    cases this
    exact absurd hG.dep (by omega)
   rw[qZ9 hd]
   simp only[qBB]
   rcases qQv f1 f2 f3 hz with ⟨c1,l,m,c2⟩ | ⟨c1,c2⟩
   ·rw[c2,qAA]
    exact .inl ⟨F,⟨f1,f2,f3,hl,hz,by omega,c1⟩,rfl⟩
   ·rw[c2,qAA]
    refine .inr ⟨fun ⟨G,hG⟩=>?_,rfl⟩
    have:=hG.bkp
    rw[hb] at this
    cases this
    exact c1 hG.cns
  ·rw[qZ9 hl]
   refine .inr ⟨fun ⟨G,hG⟩=>?_,rfl⟩
   have:=hG.bkp
   rw[hb] at this
   cases this
   exact hl hG.len
theorem qCv {t:List Nod} (hs:qTQ t):∃ b,qSf t=some ((b,()),())/\(b=true ↔ ∃ F,VT t F):=by
 unfold qSf
 rcases qXx hs with ⟨F,h1,h2⟩ | ⟨h1,h2⟩
 ·rw[h2,qAA];exact ⟨_,rfl,fun _=>⟨F,h1⟩,fun _=>rfl⟩
 ·rw[h2,qAA];exact ⟨_,rfl,fun h=>(by cases h),fun h=>absurd h h1⟩
end Go.AM.Num
end
section
namespace Go.AM.Num
inductive SV where
 |b (x:Bool)
 |z (n:Int)
 |q (r:Rat)
 |a (d:Int) (P:KV)
def encS:SV->Val
 |.b x=>(1,x,[],[],[])
 |.z n=>(2,false,ti n,[],[])
 |.q r=>(3,false,txt r,[],[])
 |.a d P=>qTH d P
def qVH:SV->Int
 |.b _=>1
 |.z _=>2
 |.q _=>3
 |.a _ _=>4
def okS:SV->Prop
 |.a d P=>Canon d P
 |_=>True
def isT:SV->Bool
 |.b x=>x
 |_=>false
def qDT:SV->Rat
 |.z n=>(n:Rat)
 |.q r=>r
 |_=>0
def intV (v:SV):Int:=(qDT v).num
def qVl (s:Int) (r:Rat):SV:=if s=2 then .z r.num else .q r
def atS:SV->Int->Int
 |.a d P,i=>atP d P i
 |_,_=>0
def stS:SV->Int->Int->SV
 |.a d P,i,n=>.a d (stP d P i n)
 |v,_,_=>v
def sumQ (vs:List SV):Rat:=vs.foldl (fun s v=>s+qDT v) 0
noncomputable def qMc (n:Nod):Rat:=(rd (qSQ n)).getD 0
open Classical in
noncomputable def opV (n:Nod) (vs:List SV):SV:=
 if nOp n=1\/nOp n=7 then .b (vs.all isT)
 else if nOp n=2\/nOp n=8 then .b (vs.any isT)
 else if nOp n=6 then .b (!isT (vs.getD 0 (.b false)))
 else if nOp n=9 then .b (!isT (vs.getD 0 (.b false))||isT (vs.getD 1 (.b false)))
 else if nOp n=10 then (if isT (vs.getD 0 (.b false))=true then vs.getD 1 (.b false) else vs.getD 2 (.b false))
 else if nOp n=11 then .b (decide (vs.getD 0 (.b false)=vs.getD 1 (.b false)))
 else if nOp n=12 then .b (decide (qDT (vs.getD 0 (.b false))<=qDT (vs.getD 1 (.b false))))
 else if nOp n=13 then .b (decide (qDT (vs.getD 0 (.b false)) < qDT (vs.getD 1 (.b false))))
 else if nOp n=3 then qVl (qQF n) (qMc n)
 else if nOp n=14 then qVl (qVH (vs.getD 0 (.b false))) (sumQ vs)
 else if nOp n=15 then qVl (qVH (vs.getD 0 (.b false))) (qDT (vs.getD 0 (.b false)) * qDT (vs.getD 1 (.b false)))
 else if nOp n=16 then .z (intV (vs.getD 0 (.b false)) / (qMc n).num)
 else if nOp n=17 then .z (intV (vs.getD 0 (.b false)) % (qMc n).num)
 else if nOp n=18 then .z (atS (vs.getD 0 (.b false)) (intV (vs.getD 1 (.b false))))
 else if nOp n=19 then stS (vs.getD 0 (.b false)) (intV (vs.getD 1 (.b false))) (intV (vs.getD 2 (.b false)))
 else .a (intV (vs.getD 0 (.b false))) []
theorem qLV (v:SV):(encS v).1=qVH v:=by cases v<;>rfl
theorem qQap {P Q:KV} (h1:ks P=ks Q) (h2:vs P=vs Q):P=Q:=by
 induction P generalizing Q with
 |nil=>cases Q with
  |nil=>rfl
  |cons q Q=>simp[ks] at h1
 |cons p P ih=>
  cases Q with
  |nil=>simp[ks] at h1
  |cons q Q=>
   simp only[ks,vs,List.map_cons,List.cons.injEq] at h1 h2
   rw[ih h1.2 h2.2,Prod.ext (qCj h1.1) (qCj h2.1)]
theorem qMu {v w:SV} (h:encS v=encS w):v=w:=by
 have hs:=congrArg Prod.fst h
 rw[qLV,qLV] at hs
 cases v<;>cases w<;>simp only[qVH] at hs<;>first | (exfalso;revert hs;decide) | skip
 ·simp only[encS,Prod.mk.injEq] at h;rw[h.2.1]
 ·simp only[encS,Prod.mk.injEq] at h;rw[qCj h.2.2.1]
 ·simp only[encS,Prod.mk.injEq] at h;rw[txt_inj h.2.2.1]
 ·simp only[encS,Prod.mk.injEq] at h;rw[qCj h.2.2.1,qQap h.2.2.2.1 h.2.2.2.2]
theorem qBb {v:Val}:qLP v=true ↔ v.2.2.2.1=[]/\v.2.2.2.2=[]:=by
 unfold qLP
 simp only[qY0,decide_eq_true_eq,List.length_eq_zero_iff]
theorem qQs {v:Val}:qNG v=true ↔ ∃ s,okS s/\v=encS s:=by
 constructor
 ·intro h
  by_cases h4:v.1=4
  ·obtain ⟨d,P,e,c⟩:=qZad h h4
   exact ⟨.a d P,c,e⟩
  obtain ⟨s,b,num,k,w⟩:=v
  simp only at h4
  unfold qNG at h
  simp only at h
  split at h
  ·rename_i h1
   subst h1
   simp only[qY0,qBb,beq_iff_eq] at h
   obtain ⟨rfl,rfl,rfl⟩:=h
   exact ⟨.b b,trivial,rfl⟩
  ·split at h
   ·rename_i h1
    subst h1
    simp only[qY0,qBb,Bool.not_eq_true'] at h
    obtain ⟨⟨rfl,h2⟩,rfl,rfl⟩:=h
    obtain ⟨z,rfl⟩:=qHaf h2
    exact ⟨.z z,trivial,rfl⟩
   ·split at h
    ·rename_i h1
     subst h1
     simp only[qY0,qBb,Bool.not_eq_true',Option.isSome_iff_exists] at h
     obtain ⟨⟨rfl,q,h2⟩,rfl,rfl⟩:=h
     have:=qWO h2
     subst this
     exact ⟨.q q,trivial,rfl⟩
    ·first | cases h | (rw[if_neg h4] at h;cases h)
 ·rintro ⟨s,h,rfl⟩
  cases s with
  |b x=>simp[encS,qNG,qLP]
  |z n=>simp[encS,qNG,qLP,qUV]
  |q r=>simp[encS,qNG,qLP,qOK]
  |a d P=>exact qIn h
theorem qWf {s:SV} (h:okS s):qNG (encS s)=true:=qQs.2 ⟨s,h,rfl⟩
theorem qSk {s:Int} (h:s=2\/s=3) (r:Rat):qVH (qVl s r)=s:=by
 unfold qVl
 split
 ·rename_i e;rw[e];rfl
 ·rcases h with h | h
  ·contradiction
  ·rw[h];rfl
theorem qCq (s:Int) (r:Rat):okS (qVl s r):=by unfold qVl;split<;>trivial
theorem qYao {n:Nod} {vs:List SV} {f:Int} (hn:qLC n=true) (h4:nOp n≠4) (h5:nOp n≠5) (hc:qHB (nOp n) vs.length=true) (hs:qTC n f (vs.map qVH)≠0) (hok:∀ v∈vs,okS v) :
 qVH (opV n vs)=qTC n f (vs.map qVH)/\okS (opV n vs):=by
 obtain ⟨o,s,nm,num,kd⟩:=n
 simp only[nOp] at h4 h5 hc
 have hall:∀ ws:List SV,(if ∀ s∈ws.map qVH,s=1 then (1:Int) else 0)≠0->(1:Int)=if ∀ s∈ws.map qVH,s=1 then (1:Int) else 0:=fun ws h=>by
  split at h<;>rename_i hh
  ·rw[if_pos hh]
  ·exact absurd rfl h
 unfold opV qTC at *
 simp only[nOp,qQF] at *
 by_cases e3:o=3
 ·subst e3
  simp at hs ⊢
  refine ⟨qSk ?_ _,qCq _ _⟩
  simp[qLC] at hn
  rcases hn.2 with h | h
  ·exact .inl h.1
  ·exact .inr h.1
 rw[if_neg (show ¬ (o=3\/o=4\/o=5) by omega)] at hs ⊢
 by_cases e1:o=1\/o=7
 ·rw[if_pos e1,if_pos (by omega)]
  rw[if_pos (by omega)] at hs
  exact ⟨hall vs hs,trivial⟩
 rw[if_neg e1]
 by_cases e2:o=2\/o=8
 ·rw[if_pos e2,if_pos (by omega)]
  rw[if_pos (by omega)] at hs
  exact ⟨hall vs hs,trivial⟩
 rw[if_neg e2]
 by_cases e6:o=6
 ·rw[if_pos e6,if_pos (by omega)]
  rw[if_pos (by omega)] at hs
  exact ⟨hall vs hs,trivial⟩
 rw[if_neg e6]
 by_cases e9:o=9
 ·rw[if_pos e9,if_pos (by omega)]
  rw[if_pos (by omega)] at hs
  exact ⟨hall vs hs,trivial⟩
 rw[if_neg e9]
 rw[if_neg (show ¬ (o=1\/o=2\/o=6\/o=7\/o=8\/o=9) by omega)] at hs ⊢
 by_cases e10:o=10
 ·subst e10
  rcases vs with _ | ⟨a,_ | ⟨b,_ | ⟨c,_ | ⟨d,l⟩⟩⟩⟩<;>simp[qHB] at hc
  ·simp at hs hok ⊢
   by_cases q:isT a=true
   ·rw[if_pos q,if_pos ⟨hs.1,hs.2.1⟩];exact ⟨rfl,hok.2.1⟩
   ·rw[if_neg q,if_pos ⟨hs.1,hs.2.1⟩];exact ⟨hs.2.1.symm,hok.2.2⟩
  ·omega
 rw[if_neg e10] at hs ⊢
 rw[if_neg e10]
 by_cases e11:o=11
 ·subst e11
  simp at hs ⊢
  rw[if_pos hs];exact ⟨rfl,trivial⟩
 rw[if_neg e11] at hs ⊢
 rw[if_neg e11]
 by_cases e12:o=12
 ·subst e12
  simp only[true_or,if_true] at hs ⊢
  split at hs<;>rename_i hh
  ·rw[if_pos hh];exact ⟨rfl,trivial⟩
  ·exact absurd rfl hs
 rw[if_neg e12]
 by_cases e13:o=13
 ·subst e13
  simp only[or_true,if_true] at hs ⊢
  split at hs<;>rename_i hh
  ·rw[if_pos hh];exact ⟨rfl,trivial⟩
  ·exact absurd rfl hs
 rw[if_neg e13,if_neg e3]
 rw[if_neg (show ¬ (o=12\/o=13) by omega)] at hs ⊢
 by_cases e14:o=14
 ·subst e14
  rcases vs with _ | ⟨a,l⟩<;>simp[qHB] at hc
  simp only[if_true,List.map_cons,qZ3] at hs ⊢
  split at hs<;>rename_i hh
  ·rw[if_pos hh];exact ⟨qSk hh.1 _,qCq _ _⟩
  ·exact absurd rfl hs
 rw[if_neg e14] at hs ⊢
 rw[if_neg e14]
 by_cases e15:o=15
 ·subst e15
  rcases vs with _ | ⟨a,l⟩<;>simp[qHB] at hc
  simp only[if_true,List.map_cons,qZ3] at hs ⊢
  split at hs<;>rename_i hh
  ·rw[if_pos hh];exact ⟨qSk hh.2.1 _,qCq _ _⟩
  ·exact absurd rfl hs
 rw[if_neg e15] at hs ⊢
 rw[if_neg e15]
 by_cases e16:o=16
 ·rw[if_pos e16,if_pos (.inl e16)]
  rw[if_pos (.inl e16)] at hs
  split at hs<;>rename_i hh
  ·rw[if_pos hh];exact ⟨rfl,trivial⟩
  ·exact absurd rfl hs
 rw[if_neg e16]
 by_cases e17:o=17
 ·rw[if_pos e17,if_pos (.inr e17)]
  rw[if_pos (.inr e17)] at hs
  split at hs<;>rename_i hh
  ·rw[if_pos hh];exact ⟨rfl,trivial⟩
  ·exact absurd rfl hs
 rw[if_neg e17]
 rw[if_neg (show ¬ (o=16\/o=17) by omega)] at hs ⊢
 by_cases e18:o=18
 ·rw[if_pos e18] at hs ⊢
  rw[if_pos e18]
  split at hs<;>rename_i hh
  ·rw[if_pos hh];exact ⟨rfl,trivial⟩
  ·exact absurd rfl hs
 rw[if_neg e18] at hs ⊢
 rw[if_neg e18]
 by_cases e19:o=19
 ·subst e19
  rcases vs with _ | ⟨a,_ | ⟨b,_ | ⟨c,_ | ⟨d,l⟩⟩⟩⟩<;>simp[qHB] at hc
  ·simp at hs hok ⊢
   rw[if_pos hs]
   cases a with
   |a d P=>exact ⟨rfl,qLf hok.1 _ _⟩
   |b x=>simp[qVH] at hs
   |z x=>simp[qVH] at hs
   |q x=>simp[qVH] at hs
  ·omega
 rw[if_neg e19] at hs ⊢
 rw[if_neg e19]
 split at hs<;>rename_i hh
 ·rw[if_pos hh]
  split at hs<;>rename_i h2
  ·rw[if_pos h2];exact ⟨rfl,qEY _⟩
  ·exact absurd rfl hs
 ·exact absurd rfl hs
structure Ht (m:Nat) (r:Rat):Prop where
 num:(dd r.num.natAbs).length<=m
 den:(dd r.den).length<=m
theorem Ht.mono {m k:Nat} {r:Rat} (h:Ht m r) (hk:m<=k):Ht k r:=⟨by have:=h.num;omega,by have:=h.den;omega⟩
theorem Ht.D {m:Nat} {r:Rat} (h:Ht m r):D r<=2 * m:=by have:=h.num;have:=h.den;unfold Num.D;omega
theorem qFp {m:Nat} {r:Rat} (h:D r<=m):Ht m r:=by unfold Num.D at h;exact ⟨by omega,by omega⟩
theorem qEaq {n:Int} {d m:Nat} (hd:d≠0) (h1:(dd n.natAbs).length<=m) (h2:(dd d).length<=m):Ht m (mkRat n d):=by
 have e1:(n / (d.gcd n.natAbs:Nat)).natAbs<=n.natAbs:=by
  obtain ⟨k,hk⟩:((d.gcd n.natAbs:Nat):Int) ∣ n:=by
   have:=Nat.gcd_dvd_right d n.natAbs
   exact Int.ofNat_dvd_left.2 this
  have hg:((d.gcd n.natAbs:Nat):Int)≠0:=fun e=>hd (Nat.gcd_eq_zero_iff.1 (by exact_mod_cast e)).1
  have e1:n / (d.gcd n.natAbs:Nat)=k:=by
   conv=>lhs;lhs;rw[hk]
   exact Int.mul_ediv_cancel_left _ hg
  rw[e1]
  conv=>rhs;rw[hk,Int.natAbs_mul]
  exact Nat.le_mul_of_pos_left _ (by omega)
 have e2:=Nat.div_le_self d (d.gcd n.natAbs)
 have:=qDB e1
 have:=qDB e2
 refine ⟨?_,?_⟩
 ·rw[Rat.num_mkRat,if_neg hd];omega
 ·rw[Rat.den_mkRat,if_neg hd];omega
theorem qJak {m k:Nat} {p q:Rat} (hp:Ht m p) (hq:Ht k q):Ht (m+k+1) (p+q):=by
 rw[Rat.add_def']
 have h1:=qDB (qKY (p.num * q.den) (q.num * p.den))
 have h2:=qLR (p.num * q.den).natAbs (q.num * p.den).natAbs
 rw[Int.natAbs_mul,Int.natAbs_mul,Int.natAbs_natCast,Int.natAbs_natCast] at h1 h2
 have h3:=qFC p.num.natAbs q.den
 have h4:=qFC q.num.natAbs p.den
 have h5:=qFC p.den q.den
 have:=hp.num;have:=hp.den;have:=hq.num;have:=hq.den
 exact qEaq (Nat.mul_ne_zero p.den_nz q.den_nz) (by omega) (by omega)
theorem qAar {m k:Nat} {p q:Rat} (hp:Ht m p) (hq:Ht k q):Ht (m+k) (p * q):=by
 rw[Rat.mul_def']
 have h1:=qFC p.num.natAbs q.num.natAbs
 have h5:=qFC p.den q.den
 have:=hp.num;have:=hp.den;have:=hq.num;have:=hq.den
 exact qEaq (Nat.mul_ne_zero p.den_nz q.den_nz) (by rw[Int.natAbs_mul];omega) (by omega)
theorem qQT {m:Nat} {n:Int} (h:(dd n.natAbs).length<=m):Ht m (n:Rat):=by
 refine ⟨by rw[Rat.num_intCast];exact h,?_⟩
 rw[Rat.den_intCast,qTS]
 have:=qLO n.natAbs
 simp;omega
theorem qQn {m:Nat} {r:Rat} (h:Ht m r):Ht m ((r.num:Int):Rat):=qQT h.num
theorem qCak {m:Nat} {x y:Int} (h:Ht m (x:Rat)) (hy:y.natAbs<=x.natAbs):Ht m (y:Rat):=by
 have:=h.num
 rw[Rat.num_intCast] at this
 exact qQT (by have:=qDB hy;omega)
def Bdd (B:Nat):SV->Prop
 |.b _=>True
 |.z n=>Ht B (n:Rat)
 |.q r=>Ht B r
 |.a d P=>Ht B (d:Rat)/\(∀ p∈P,Ht B (p.1:Rat)/\Ht B (p.2:Rat))/\P.length<=B
theorem Bdd.mono {B C:Nat} {v:SV} (h:Bdd B v) (hc:B<=C):Bdd C v:=by
 cases v with
 |b _=>trivial
 |z n=>exact Ht.mono h hc
 |q r=>exact Ht.mono h hc
 |a d P=>
  obtain ⟨h1,h2,h3⟩:=h
  exact ⟨h1.mono hc,fun p hp=>⟨(h2 p hp).1.mono hc,(h2 p hp).2.mono hc⟩,by omega⟩
theorem qRS {B:Nat} {v:SV} (h:Bdd B v) (hB:1<=B):Ht B (qDT v):=by
 have h0:Ht B ((0:Int):Rat):=qQT (by simp[qED];exact hB)
 cases v with
 |b _=>exact h0
 |z n=>exact h
 |q r=>exact h
 |a d P=>exact h0
theorem qLm {B:Nat} {v:SV} (h:Bdd B v) (hB:1<=B):Ht B ((intV v:Int):Rat):=qQn (qRS h hB)
def Hs:List SV->Nat->Prop
 |[],_=>True
 |v::vs,B=>∃ b c,1<=b/\Bdd b v/\Hs vs c/\b+1+c<=B
theorem Hs.mono {vs:List SV} {B C:Nat} (h:Hs vs B) (hc:B<=C):Hs vs C:=by
 cases vs with
 |nil=>trivial
 |cons v vs=>obtain ⟨b,c,h1,h2,h3,h4⟩:=h;exact ⟨b,c,h1,h2,h3,by omega⟩
theorem Hs.mem:∀ {vs:List SV} {B:Nat},Hs vs B->∀ v∈vs,Bdd B v:=by
 intro vs
 induction vs with
 |nil=>intro B _ v hv;cases hv
 |cons w vs ih=>
  intro B h v hv
  obtain ⟨b,c,h1,h2,h3,h4⟩:=h
  rcases List.mem_cons.1 hv with rfl | hv
  ·exact h2.mono (by omega)
  ·exact (ih h3 v hv).mono (by omega)
theorem Hs.sum:∀ {vs:List SV} {a B:Nat} {r:Rat},Ht a r->Hs vs B->Ht (a+B) (vs.foldl (fun s v=>s+qDT v) r):=by
 intro vs
 induction vs with
 |nil=>intro a B r h _;exact h.mono (by omega)
 |cons w vs ih=>
  intro a B r h hs
  obtain ⟨b,c,h1,h2,h3,h4⟩:=hs
  exact (ih (qJak h (qRS h2 h1)) h3).mono (by omega)
theorem Hs.get {vs:List SV} {B:Nat} (h:Hs vs B) (i:Nat):Bdd B (vs.getD i (.b false)):=by
 rw[qZ4]
 cases hi:vs[i]? with
 |none=>trivial
 |some v=>exact h.mem v (qY14 hi)
theorem qDag (i:Int):∀ P:KV,(lo i P).length+(hi i P).length<=P.length:=by
 intro P
 induction P with
 |nil=>simp[lo,hi]
 |cons p P ih=>
  simp only[lo,hi] at ih
  simp only[lo,hi,List.filter_cons]
  by_cases h1:p.1 < i
  ·rw[if_pos (qZ10 h1),if_neg (by simp;omega)];simp;omega
  ·rw[if_neg (by simp;omega)]
   split<;>simp<;>omega
theorem qUr {B:Nat} {r:Rat} (s:Int) (h:Ht B r):Bdd B (qVl s r):=by unfold qVl;split;exact qQn h;exact h
theorem qGaq {n:Nod} {vs:List SV} {B:Nat} (hB:Hs vs B) (hn:Ht 75 (qMc n)):Bdd (B+79) (opV n vs):=by
 have g:=hB.get
 have gi:∀ i,Ht (B+1) ((intV (vs.getD i (.b false)):Int):Rat):=fun i=>qLm ((g i).mono (by omega)) (by omega)
 have gv:∀ i,Ht (B+1) (qDT (vs.getD i (.b false))):=fun i=>qRS ((g i).mono (by omega)) (by omega)
 unfold opV
 by_cases c0:nOp n=1\/nOp n=7
 ·rw[if_pos c0];trivial
 rw[if_neg c0]
 by_cases c1:nOp n=2\/nOp n=8
 ·rw[if_pos c1];trivial
 rw[if_neg c1]
 by_cases c2:nOp n=6
 ·rw[if_pos c2];trivial
 rw[if_neg c2]
 by_cases c3:nOp n=9
 ·rw[if_pos c3];trivial
 rw[if_neg c3]
 by_cases c4:nOp n=10
 ·rw[if_pos c4]
  split<;>exact (g _).mono (by omega)
 rw[if_neg c4]
 by_cases c5:nOp n=11
 ·rw[if_pos c5];trivial
 rw[if_neg c5]
 by_cases c6:nOp n=12
 ·rw[if_pos c6];trivial
 rw[if_neg c6]
 by_cases c7:nOp n=13
 ·rw[if_pos c7];trivial
 rw[if_neg c7]
 by_cases c8:nOp n=3
 ·rw[if_pos c8];exact qUr _ (hn.mono (by omega))
 rw[if_neg c8]
 by_cases c9:nOp n=14
 ·rw[if_pos c9]
  have h0:Ht 1 (0:Rat):=qQT (n:=0) (by simp[qED])
  exact qUr _ ((hB.sum h0).mono (by omega))
 rw[if_neg c9]
 by_cases c10:nOp n=15
 ·rw[if_pos c10]
  refine qUr _ ?_
  rcases vs with _ | ⟨a,_ | ⟨b,l⟩⟩
  ·simp only[List.getD_nil,qDT]
   rw[Rat.zero_mul]
   exact qQT (n:=0) (by simp[qED])
  ·simp only[qZ2,List.getD_nil,qDT]
   rw[Rat.mul_zero]
   exact qQT (n:=0) (by simp[qED])
  ·obtain ⟨x,c,h1,h2,⟨y,c2,h5,h6,h7,h8⟩,h4⟩:=hB
   simp only[qZ2,qZ3]
   exact (qAar (qRS h2 h1) (qRS h6 h5)).mono (by omega)
 rw[if_neg c10]
 by_cases c11:nOp n=16
 ·rw[if_pos c11]
  have:(intV (vs.getD 0 (.b false)) / (qMc n).num).natAbs<=(intV (vs.getD 0 (.b false))).natAbs:=by
   have h:=Int.natAbs_ediv_le_natAbs (intV (vs.getD 0 (.b false))) (qMc n).num
   exact h
  exact (qCak (gi 0) this).mono (by omega)
 rw[if_neg c11]
 by_cases c12:nOp n=17
 ·rw[if_pos c12]
  by_cases hz:(qMc n).num=0
  ·rw[hz,Int.emod_zero];exact (gi 0).mono (by omega)
  ·have:(intV (vs.getD 0 (.b false)) % (qMc n).num).natAbs<=(qMc n).num.natAbs:=by
    have h1:=Int.emod_nonneg (intV (vs.getD 0 (.b false))) hz
    have h2:=Int.emod_lt (intV (vs.getD 0 (.b false))) hz
    omega
   exact (qCak (qQn hn) this).mono (by omega)
 rw[if_neg c12]
 by_cases c13:nOp n=18
 ·rw[if_pos c13]
  have ga:=g 0
  generalize vs.getD 0 (.b false)=v at ga
  cases v with
  |a d P=>
   obtain ⟨h1,h2,h3⟩:=ga
   have:atP d P (intV (vs.getD 1 (.b false)))=d\/∃ p∈P,atP d P (intV (vs.getD 1 (.b false)))=p.2:=by
    unfold atP
    cases hf:P.find? fun p=>decide (p.1=intV (vs.getD 1 (.b false))) with
    |none=>exact .inl rfl
    |some p=>exact .inr ⟨p,List.mem_of_find?_eq_some hf,rfl⟩
   simp only[atS]
   rcases this with e | ⟨p,hp,e⟩
   ·rw[e];exact h1.mono (by omega)
   ·rw[e];exact (h2 p hp).2.mono (by omega)
  |b _=>exact qQT (n:=0) (by simp[qED])
  |z _=>exact qQT (n:=0) (by simp[qED])
  |q _=>exact qQT (n:=0) (by simp[qED])
 rw[if_neg c13]
 by_cases c14:nOp n=19
 ·rw[if_pos c14]
  have ga:=g 0
  generalize vs.getD 0 (.b false)=v at ga
  cases v with
  |a d P=>
   obtain ⟨h1,h2,h3⟩:=ga
   simp only[stS]
   refine ⟨h1.mono (by omega),fun p hp=>?_,?_⟩
   ·unfold stP at hp
    rcases List.mem_append.1 hp with hp | hp
    ·rcases List.mem_append.1 hp with hp | hp
     ·have:=h2 p (qSi.1 hp).1;exact ⟨this.1.mono (by omega),this.2.mono (by omega)⟩
     ·split at hp
      ·cases hp
      ·rw[List.mem_singleton.1 hp];exact ⟨(gi 1).mono (by omega),(gi 2).mono (by omega)⟩
    ·have:=h2 p (qTl.1 hp).1;exact ⟨this.1.mono (by omega),this.2.mono (by omega)⟩
   ·have e:=qDag (intV (vs.getD 1 (.b false))) P
    unfold stP
    simp only[qZ6]
    split<;>simp only[List.length_nil,qY11]<;>omega
  |b _=>trivial
  |z _=>exact Ht.mono ga (by omega)
  |q _=>exact Ht.mono ga (by omega)
 rw[if_neg c14]
 ·exact ⟨(gi 0).mono (by omega),fun p hp=>absurd hp qY16,Nat.zero_le _⟩
end Go.AM.Num
end
section
namespace Go.AM.Num
open Tf
noncomputable def evN (A:qBs->Option SV) (G:Nod->List SV->Int ⊕ SV) (n:Nod) (vs:List SV):Int ⊕ SV:=
 if nOp n=4 then (match A (qAO n) with | none=>.inl 7 | some v=>if qVH v=qQF n then .inr v else .inl 3)
 else if nOp n=5 then G n vs
 else .inr (opV n vs)
noncomputable def evF (A:qBs->Option SV) (G:Nod->List SV->Int ⊕ SV):Tf->Int ⊕ List SV
 |.nil=>.inr []
 |.cons n k r=>match evF A G k with
  |.inl e=>.inl e
  |.inr vs=>match evN A G n vs with
   |.inl e=>.inl e
   |.inr v=>match evF A G r with
    |.inl e=>.inl e
    |.inr ws=>.inr (v::ws)
structure EA (A:qBs->Option SV) (G:Nod->List SV->Int ⊕ SV):Prop where
 ok:∀ nm v,A nm=some v->okS v/\Bdd 75 v
 fn:∀ n vs v,G n vs=.inr v->okS v/\Bdd 75 v/\qVH v=qQF n
 er:∀ n vs e,G n vs=.inl e->e≠0
def qJg (f:Tf):Prop:=∀ n∈f.flat,(qSQ n).length<=73
theorem qUae {n:Nod} (h:(qSQ n).length<=73):Ht 75 (qMc n):=by
 unfold qMc
 cases hr:rd (qSQ n) with
 |none=>exact qQT (n:=0) (by simp[qED])
 |some q=>
  have e:=qWO hr
  have:=D_le q
  rw[<-e] at this
  exact qFp (r:=q) (by omega)
theorem qHW {n:Nod}:okN n=true ↔ qLC n=true/\qHB (nOp n) (qEF n)=true:=by unfold okN;rw[qY0]
theorem qVB {A:qBs->Option SV} {G:Nod->List SV->Int ⊕ SV} (hE:EA A G):∀ (F:Tf),F.wf=true->(0:Int)∉F.srt->qJg F->∀ vs,evF A G F=.inr vs->vs.map qVH=F.srt/\(∀ v∈vs,okS v)/\Hs vs (80 * F.size):=by
 intro F
 induction F with
 |nil=>
  intro _ _ _ vs h
  simp only[evF,Sum.inr.injEq] at h
  subst h
  exact ⟨rfl,fun v hv=>(by cases hv),trivial⟩
 |cons n k r ik ir=>
  intro hw hs hn vs h
  obtain ⟨w1,w2,w3,w4⟩:=qFJ.1 hw
  obtain ⟨s1,s2,s3⟩:=qWM.1 hs
  have hnk:qJg k:=fun m hm=>hn m (by simp only[flat,qY12,qZ7];exact .inr (.inl hm))
  have hnr:qJg r:=fun m hm=>hn m (by simp only[flat,qY12,qZ7];exact .inr (.inr hm))
  have hnn:=qUae (hn n (by simp[flat]))
  simp only[evF] at h
  split at h
  ·cases h
  rename_i ks hk
  obtain ⟨k1,k2,k3⟩:=ik w3 s1 hnk _ hk
  split at h
  ·cases h
  rename_i v hv
  split at h
  ·cases h
  rename_i ws hr
  obtain ⟨r1,r2,r3⟩:=ir w4 s3 hnr _ hr
  simp only[Sum.inr.injEq] at h
  subst h
  have key:qVH v=qTC n (op1 k) k.srt/\okS v/\Bdd (80 * k.size+79) v:=by
   unfold evN at hv
   split at hv
   ·rename_i h4
    split at hv
    ·cases hv
    rename_i u hu
    split at hv
    ·rename_i e
     simp only[Sum.inr.injEq] at hv
     subst hv
     obtain ⟨a1,a2⟩:=hE.ok _ _ hu
     exact ⟨by rw[e];unfold qTC;rw[if_pos (by omega)],a1,a2.mono (by omega)⟩
    ·cases hv
   ·rename_i h4
    split at hv
    ·rename_i h5
     obtain ⟨a1,a2,a3⟩:=hE.fn _ _ _ hv
     exact ⟨by rw[a3];unfold qTC;rw[if_pos (by omega)],a1,a2.mono (by omega)⟩
    ·rename_i h5
     simp only[Sum.inr.injEq] at hv
     subst hv
     obtain ⟨f1,f2⟩:=qHW.1 w1
     have hl:(ks.length:Int)=qEF n:=by
      have:=congrArg List.length k1
      rw[List.length_map,qDM] at this
      omega
     obtain ⟨a1,a2⟩:=qYao (f:=op1 k) f1 h4 h5 (by rw[hl];exact f2) (by rw[k1];exact s2) k2
     rw[k1] at a1
     exact ⟨a1,a2,qGaq k3 hnn⟩
  obtain ⟨q1,q2,q3⟩:=key
  refine ⟨?_,?_,?_⟩
  ·simp only[List.map_cons,srt,r1,q1]
   rw[if_neg s1]
  ·intro u hu
   rcases List.mem_cons.1 hu with rfl | hu
   ·exact q2
   ·exact r2 u hu
  ·exact ⟨80 * k.size+79,80 * r.size,by omega,q3,r3,by simp only[size];omega⟩
theorem qHan {vs:List SV} {i:Nat} (h:i < vs.length):(vs.map encS).getD i qEK=encS (vs.getD i (.b false)):=by
 simp[qZ4,h]
theorem qXU (v:SV):(encS v).2.1=isT v:=by cases v<;>rfl
theorem qXW {v:SV} (h:qVH v=2\/qVH v=3):(encS v).2.2.1=txt (qDT v):=by
 cases v with
 |z n=>rfl
 |q r=>rfl
 |b x=>simp[qVH] at h
 |a d P=>simp[qVH] at h
theorem qGP {v:SV} (h:qVH v=2):v=.z (intV v)/\(encS v).2.2.1=ti (intV v)/\qDT v=(intV v:Rat):=by
 cases v with
 |z n=>
  have e:intV (.z n)=n:=by unfold intV qDT;exact Rat.num_intCast n
  rw[e];exact ⟨rfl,rfl,rfl⟩
 |q r=>simp[qVH] at h
 |b x=>simp[qVH] at h
 |a d P=>simp[qVH] at h
theorem qKad {v:SV} (h:qVH v=4):∃ d P,v=.a d P:=by
 cases v with
 |z n=>simp[qVH] at h
 |q r=>simp[qVH] at h
 |b x=>simp[qVH] at h
 |a d P=>exact ⟨d,P,rfl⟩
theorem qWX {s:Int} {r:Rat} (hs:s=2\/s=3) (h:s=2->r.den=1):encS (qVl s r)=(s,false,txt r,[],[]):=by
 unfold qVl
 split
 ·rename_i e
  have:=qDk (h e)
  rw[e]
  simp only[encS,ti]
  rw[<-this]
 ·have:s=3:=by omega
  rw[this];rfl
theorem qRan {α:Type} (p:α->Bool) (l:List α):(l.all fun x=>!p x)=!l.any p:=by
 induction l with
 |nil=>rfl
 |cons a l ih=>simp only[List.all_cons,List.any_cons,ih,Bool.not_or]
theorem qOY {st:(List Val)×Unit×Int×Int×Int×Unit->Option (Ex×((List Val)×Unit×Int×Int×Int×Unit))} {l:List Val} {p:Val->Bool} (hl:l.length<=1000000000)
 (hg:∀ k,k < l.length->st (l,(),0,(l.length:Int),(k:Int),())=some (if p (l.getD k qEK) then (.ret,(l,(),(k:Int),(l.length:Int),(k:Int),())) else (.normal,(l,(),0,(l.length:Int),((k+1:Nat):Int),()))))
 (he:st (l,(),0,(l.length:Int),(l.length:Int),())=some (.exit 0,(l,(),0,(l.length:Int),(l.length:Int),()))) :
 (l.any p=false/\qOA st (l,(),0,(l.length:Int),0,())=some (.exit 0,(l,(),0,(l.length:Int),(l.length:Int),())))\/(l.any p=true/\∃ k:Nat,qOA st (l,(),0,(l.length:Int),0,())=some (.ret,(l,(),(k:Int),(l.length:Int),(k:Int),()))):=by
 have key:=qOL (step:=st) (fun k=>(l,(),(0:Int),(l.length:Int),(k:Int),())) (fun k=>(l,(),(k:Int),(l.length:Int),(k:Int),())) l.length (E:=.exit 0) (B:=.ret) (by simp) (by simp) (fun k=>!p (l.getD k qEK)) (fun k hk=>by
  rw[hg k hk]
  cases p (l.getD k qEK)<;>rfl) he
 rw[qIR l qEK (fun x=>!p x)] at key
 rw[qRan] at key
 rcases key with ⟨k1,k2⟩ | ⟨k1,k,k2⟩
 ·exact .inl ⟨by simpa using k1,k2⟩
 ·exact .inr ⟨by simpa using k1,k,k2⟩
theorem qSn {l:List Val} (hl:l.length<=1000000000):qGB l ()=some ((l.any fun v=>!v.2.1,()),()):=by
 have key:=qOY (st:=qFB) (p:=fun v=>!v.2.1) hl (fun k hk=>by
  unfold qFB
  simp only
  rw[qIA (by omega),qEA,qBA (by omega),qBA (by omega),qZ0,w64 (by omega)]
  unfold qEs
  rw[qAA]
  cases (l.getD k qEK).2.1<;>rfl) (by
  unfold qFB
  simp only
  rw[qNA (by omega)])
 unfold qGB qMD
 rcases key with ⟨k1,k2⟩ | ⟨k1,k,k2⟩
 ·rw[k2,k1];rfl
 ·rw[k2,k1]
  simp only[qAA,qCF,qBF,qPA,qBB]
  rw[qZ10 (by omega)]
theorem qHr {l:List Val} (hl:l.length<=1000000000):qJB l ()=some ((l.any fun v=>v.2.1,()),()):=by
 have key:=qOY (st:=qIB) (p:=fun v=>v.2.1) hl (fun k hk=>by
  unfold qIB
  simp only
  rw[qIA (by omega),qEA,qBA (by omega),qBA (by omega),qZ0,w64 (by omega)]
  unfold v_is
  rw[qAA]
  cases (l.getD k qEK).2.1<;>rfl) (by
  unfold qIB
  simp only
  rw[qNA (by omega)])
 unfold qJB qVD
 rcases key with ⟨k1,k2⟩ | ⟨k1,k,k2⟩
 ·rw[k2,k1];rfl
 ·rw[k2,k1]
  simp only[qAA,qCF,qBF,qPA,qBB]
  rw[qZ10 (by omega)]
theorem qSam (vs:List SV):((vs.map encS).any fun v=>!v.2.1)=!vs.all isT:=by
 induction vs with
 |nil=>rfl
 |cons v vs ih=>simp only[List.map_cons,List.any_cons,List.all_cons,ih,qXU,Bool.not_and]
theorem qUaq (vs:List SV):((vs.map encS).any fun v=>v.2.1)=vs.any isT:=by
 induction vs with
 |nil=>rfl
 |cons v vs ih=>simp only[List.map_cons,List.any_cons,ih,qXU]
theorem qBai (l1:List Val) (t4:Val) (L:List SV) (hL:L.length<=100000):∀ (vs pre:List SV) (a B:Nat) (r:Rat),L=pre++vs->(∀ v∈vs,qVH v=2\/qVH v=3)->Ht a r->Hs vs B->a+B<=400000->
 qOA qTM (l1,t4,txt r,L.map encS,(L.length:Int),(pre.length:Int),())=some (.exit 1,(l1,t4,txt (vs.foldl (fun s v=>s+qDT v) r),L.map encS,(L.length:Int),(L.length:Int),())):=by
 intro vs
 induction vs with
 |nil=>
  intro pre a B r hL' _ _ _ _
  have:pre.length=L.length:=by rw[hL'];simp
  refine qWA ?_ (by simp)
  unfold qTM
  simp only
  rw[qNA (by omega),this]
  rfl
 |cons w vs ih=>
  intro pre a B r hL' hs hr hB hab
  obtain ⟨b,c,h1,h2,h3,h4⟩:=hB
  have hlen:L.length=pre.length+(vs.length+1):=by rw[hL'];simp
  have hg:(L.map encS).getD pre.length qEK=encS w:=by
   rw[qHan (by omega),hL'];simp[qZ4]
  have hw:=qRS h2 h1
  rw[qAB (y:=(l1,t4,txt (r+qDT w),L.map encS,(L.length:Int),((pre++[w]).length:Int),())) (by
   unfold qTM
   simp only
   rw[qIA (by omega),qEA,qBA (by omega),qBA (by rw[List.length_map];omega),qZ0,hg,qXW (hs w (by simp)),qBaj (by have:=hr.D;omega) (by have:=hw.D;omega),qAA,w64 (by omega)]
   simp)]
  rw[ih (pre++[w]) (a+b+1) c (r+qDT w) (by rw[hL'];simp) (fun v hv=>hs v (by simp[hv])) (qJak hr hw) h3 (by omega)]
  rfl
end Go.AM.Num
end
section
namespace Go.AM.Num
open Tf
theorem qIak (p q:Rat):(p - q).num.sign<=0 ↔ p<=q:=by
 have h1:(p - q).num.sign<=0 ↔ 0<=(-(p - q)).num:=by
  rw[Rat.neg_num]
  rcases Int.lt_trichotomy (p - q).num 0 with h | h | h
  ·rw[Int.sign_eq_neg_one_of_neg h];omega
  ·rw[h];simp
  ·rw[Int.sign_eq_one_of_pos h];omega
 rw[h1,Rat.num_nonneg]
 grind
theorem qTak (p q:Rat):(p - q).num.sign < 0 ↔ p < q:=by
 have h1:(p - q).num.sign < 0 ↔ ¬ 0<=(p - q).num:=by
  rw[qXq];omega
 rw[h1,Rat.num_nonneg]
 grind
theorem qPac {m:Nat} {z:Int} (h:Ht m (z:Rat)):(ti z).length<=m+1:=by
 have h1:=h.num
 rw[Rat.num_intCast] at h1
 have:=qCy (n:=z)
 unfold ti;omega
theorem qGar {B:Nat} {d:Int} {P:KV} (h:Bdd B (.a d P)) (hB:B<=99999):Sm 100000 d P:=by
 obtain ⟨h1,h2,h3⟩:=h
 exact ⟨by have:=qPac h1;omega,fun p hp=>⟨by have:=qPac (h2 p hp).1;omega,by have:=qPac (h2 p hp).2;omega⟩,by omega⟩
theorem qXz:∀ (vs:List SV) (r:Rat),r.den=1->(∀ v∈vs,qVH v=2)->(vs.foldl (fun s v=>s+qDT v) r).den=1:=by
 intro vs
 induction vs with
 |nil=>intro r h _;exact h
 |cons v vs ih=>
  intro r h hv
  refine ih _ ?_ fun w hw=>hv w (by simp[hw])
  show (r+qDT v).den=1
  rw[qDk h,(qGP (hv v (by simp))).2.2,<-Rat.intCast_add,Rat.den_intCast]
theorem qSad {n:Nod} (hf:qLC n=true) (ho:nOp n=16\/nOp n=17):∃ m:Int,0 < m/\qSQ n=txt (m:Rat)/\(qMc n).num=m:=by
 unfold qLC at hf
 rw[if_neg (by omega),if_neg (by omega),if_pos ho] at hf
 simp only[qY0,decide_eq_true_eq] at hf
 obtain ⟨⟨_,h1⟩,h2⟩:=hf
 obtain ⟨m,h3,h4⟩:=qNR h1
 refine ⟨m,?_,h3,by unfold qMc;rw[h4];exact Rat.num_intCast m⟩
 unfold qSW at h2
 rw[h4] at h2
 simp only[Rat.num_intCast] at h2
 rcases Int.lt_trichotomy m 0 with h | h | h
 ·rw[Int.sign_eq_neg_one_of_neg h] at h2;omega
 ·rw[h] at h2;simp at h2
 ·exact h
theorem qKaa {n:Nod} (hf:qLC n=true) (ho:nOp n=3):(qQF n=2\/qQF n=3)/\qSQ n=txt (qMc n)/\(qQF n=2->(qMc n).den=1):=by
 unfold qLC at hf
 rw[if_pos ho] at hf
 simp only[qY0,Bool.or_eq_true,decide_eq_true_eq] at hf
 unfold qMc
 rcases hf.2 with ⟨h1,h2⟩ | ⟨h1,h2⟩
 ·obtain ⟨m,h3,h4⟩:=qNR h2
  rw[h4]
  exact ⟨.inl h1,h3,fun _=>Rat.den_intCast m⟩
 ·obtain ⟨q,h3⟩:=Option.isSome_iff_exists.1 h2
  rw[h3]
  exact ⟨.inr h1,qWO h3,fun e=>by omega⟩
theorem i0:(0:Int).toNat=0:=rfl
theorem i1:(1:Int).toNat=1:=rfl
theorem i2:(2:Int).toNat=2:=rfl
theorem qFn {n:Nod} {vs:List SV} {B:Nat} {f:Int} (hn:qLC n=true) (h4:nOp n≠4) (h5:nOp n≠5) (hbig:nOp n=3\/14<=nOp n) (hc:qHB (nOp n) vs.length=true) (hs:qTC n f (vs.map qVH)≠0)
 (hok:∀ v∈vs,okS v) (hB:Hs vs B) (hB9:B<=90000) (hnn:Ht 75 (qMc n)) (hl:vs.length<=100000):qGY n (vs.map encS)=some ((encS (opV n vs),()),()):=by
 have hop:1<=nOp n/\nOp n<=20:=by
  unfold qLC at hn
  split at hn
  ·omega
  ·split at hn
   ·omega
   ·split at hn
    ·omega
    ·simp only[qY0,decide_eq_true_eq] at hn
     exact hn.1.1.1
 unfold qGY
 have hO:n.1=nOp n:=rfl
 have hN:n.2.2.2.1=qSQ n:=rfl
 have hS:n.2.1=qQF n:=rfl
 rw[hO,hN,hS]
 by_cases e3:nOp n=3
 ·rw[qHA e3]
  obtain ⟨a1,a2,a3⟩:=qKaa hn e3
  have:opV n vs=qVl (qQF n) (qMc n):=by unfold opV;simp[e3]
  rw[this,qWX a1 a3,a2]
  rfl
 rw[qDA e3]
 have hv:opV n vs=if nOp n=14 then qVl (qVH (vs.getD 0 (.b false))) (sumQ vs)
  else if nOp n=15 then qVl (qVH (vs.getD 0 (.b false))) (qDT (vs.getD 0 (.b false)) * qDT (vs.getD 1 (.b false)))
  else if nOp n=16 then .z (intV (vs.getD 0 (.b false)) / (qMc n).num)
  else if nOp n=17 then .z (intV (vs.getD 0 (.b false)) % (qMc n).num)
  else if nOp n=18 then .z (atS (vs.getD 0 (.b false)) (intV (vs.getD 1 (.b false))))
  else if nOp n=19 then stS (vs.getD 0 (.b false)) (intV (vs.getD 1 (.b false))) (intV (vs.getD 2 (.b false)))
  else .a (intV (vs.getD 0 (.b false))) []:=by
  unfold opV
  rw[if_neg (by omega),if_neg (by omega),if_neg (by omega),if_neg (by omega),if_neg (by omega),if_neg (by omega),if_neg (by omega),if_neg (by omega),if_neg e3]
 rw[hv]
 have hst:qTC n f (vs.map qVH)=if nOp n=14 then (if ((vs.map qVH).getD 0 0=2\/(vs.map qVH).getD 0 0=3)/\∀ s∈vs.map qVH,s=(vs.map qVH).getD 0 0 then (vs.map qVH).getD 0 0 else 0)
  else if nOp n=15 then (if f=3/\((vs.map qVH).getD 0 0=2\/(vs.map qVH).getD 0 0=3)/\∀ s∈vs.map qVH,s=(vs.map qVH).getD 0 0 then (vs.map qVH).getD 0 0 else 0)
  else if nOp n=16\/nOp n=17 then (if (vs.map qVH).getD 0 0=2 then 2 else 0)
  else if nOp n=18 then (if (vs.map qVH).getD 0 0=4/\(vs.map qVH).getD 1 0=2 then 2 else 0)
  else if nOp n=19 then (if (vs.map qVH).getD 0 0=4/\(vs.map qVH).getD 1 0=2/\(vs.map qVH).getD 2 0=2 then 4 else 0)
  else if nOp n=20 then (if (vs.map qVH).getD 0 0=2 then 4 else 0) else 0:=by
  unfold qTC
  rw[if_neg (by omega),if_neg (by omega),if_neg (by omega),if_neg (by omega),if_neg (by omega)]
 rw[hst] at hs
 clear hv hst
 by_cases e14:nOp n=14
 ·rw[e14] at hc
  rw[if_pos e14] at hs
  rw[qHA e14,if_pos e14]
  rcases vs with _ | ⟨a,l⟩
  ·simp[qHB] at hc
  ·simp only[List.map_cons,qZ3] at hs ⊢
   split at hs
   ·rename_i hh
    obtain ⟨g1,g2⟩:=hh
    have hall:∀ v∈a::l,qVH v=qVH a:=fun v hv=>g2 (qVH v) (by
     rcases List.mem_cons.1 hv with rfl | hv
     ·simp
     ·exact qY13 _ (List.mem_map_of_mem hv))
    have h0:Ht 1 ((0:Int):Rat):=qQT (by simp[qED])
    have key:=qBai (encS a::l.map encS) ((0:Int),false,([]:qBs),([]:List qBs),([]:List qBs)) (a::l) hl (a::l) [] 1 B ((0:Int):Rat) rfl (fun v hv=>by rw[hall v hv];exact g1) h0 hB (by omega)
    rw[<-t0] at key
    simp only[List.length_nil,List.map_cons] at key
    rw[show ((0:Nat):Int)=0 from rfl] at key
    have hlen:(encS a::l.map encS).length=(a::l).length:=by simp
    rw[hlen,key]
    simp only[qAA,qDC,qPA]
    rw[qEA,qBA (by omega),qBA (by simp),i0,qZ3]
    have:qQK (encS a).1 (txt ((a::l).foldl (fun s v=>s+qDT v) ((0:Int):Rat)))=some (((qVH a,false,txt ((a::l).foldl (fun s v=>s+qDT v) ((0:Int):Rat)),[],[]),()),()):=by rw[qLV];rfl
    rw[this,qAA]
    have e:sumQ (a::l)=(a::l).foldl (fun s v=>s+qDT v) ((0:Int):Rat):=rfl
    rw[e,qWX g1 fun h2=>qXz _ _ (Rat.den_intCast 0) fun v hv=>by rw[hall v hv];exact h2]
   ·exact absurd rfl hs
 rw[if_neg e14] at hs
 rw[qDA e14,if_neg e14]
 by_cases e15:nOp n=15
 ·rw[e15] at hc
  rw[if_pos e15] at hs
  rw[qHA e15,if_pos e15]
  rcases vs with _ | ⟨a,_ | ⟨b,_ | ⟨c,l⟩⟩⟩<;>simp[qHB] at hc
  ·simp only[List.map_cons,List.map_nil,qZ3,qZ2] at hs ⊢
   split at hs
   ·rename_i hh
    obtain ⟨_,g1,g2⟩:=hh
    have hb:qVH b=qVH a:=g2 _ (by simp)
    obtain ⟨x,c,q1,q2,⟨y,c2,q5,q6,q7,q8⟩,q4⟩:=hB
    have ha':=qRS q2 q1
    have hb':=qRS q6 q5
    rw[qEA,qBA (by omega),qBA (by simp),qEA,qBA (by omega),qBA (by simp),qEA,qBA (by omega),qBA (by simp),i0,i1,qZ2,qZ3,qZ3,
     qXW g1,qXW (by rw[hb];exact g1),qFar (by have:=ha'.D;omega) (by have:=hb'.D;omega),qAA,qLV]
    rw[qWX g1 fun h2=>by
     rw[(qGP h2).2.2,(qGP (hb.trans h2)).2.2,<-Rat.intCast_mul,Rat.den_intCast]]
    rfl
   ·exact absurd rfl hs
  ·omega
 rw[if_neg e15] at hs
 rw[qDA e15,if_neg e15]
 by_cases e16:nOp n=16
 ·rw[e16] at hc
  rw[if_pos (.inl e16)] at hs
  rw[qHA e16,if_pos e16]
  obtain ⟨m,m1,m2,m3⟩:=qSad hn (.inl e16)
  rcases vs with _ | ⟨a,_ | ⟨b,l⟩⟩<;>simp[qHB] at hc
  ·simp only[List.map_cons,List.map_nil,qZ3] at hs ⊢
   split at hs
   ·rename_i hh
    have hi:=qGP hh
    have h1:=(qLm ((hB.mem a (by simp)).mono (Nat.le_add_right B 1)) (by omega)).D
    have h2:=(qQn hnn).D
    rw[m3] at h2
    rw[qEA,qBA (by omega),qBA (by simp),i0,qZ3,hi.2.1,m2,m3]
    unfold ti
    rw[qLaq (by omega) (by omega) (by omega),qAA]
    rfl
   ·exact absurd rfl hs
  ·omega
 rw[qDA e16,if_neg e16]
 by_cases e17:nOp n=17
 ·rw[e17] at hc
  rw[if_pos (.inr e17)] at hs
  rw[qHA e17,if_pos e17]
  obtain ⟨m,m1,m2,m3⟩:=qSad hn (.inr e17)
  rcases vs with _ | ⟨a,_ | ⟨b,l⟩⟩<;>simp[qHB] at hc
  ·simp only[List.map_cons,List.map_nil,qZ3] at hs ⊢
   split at hs
   ·rename_i hh
    have hi:=qGP hh
    have h1:=(qLm ((hB.mem a (by simp)).mono (Nat.le_add_right B 1)) (by omega)).D
    have h2:=(qQn hnn).D
    rw[m3] at h2
    rw[qEA,qBA (by omega),qBA (by simp),i0,qZ3,hi.2.1,m2,m3]
    unfold ti
    rw[qQaq (by omega) (by omega) (by omega),qAA]
    rfl
   ·exact absurd rfl hs
  ·omega
 rw[if_neg (by omega)] at hs
 rw[qDA e17,if_neg e17]
 by_cases e18:nOp n=18
 ·rw[e18] at hc
  rw[if_pos e18] at hs
  rw[qHA e18,if_pos e18]
  rcases vs with _ | ⟨a,_ | ⟨b,_ | ⟨c,l⟩⟩⟩<;>simp[qHB] at hc
  ·simp only[List.map_cons,List.map_nil,qZ3,qZ2] at hs ⊢
   split at hs
   ·rename_i hh
    obtain ⟨d,P,rfl⟩:=qKad hh.1
    have hP:Canon d P:=hok _ (List.mem_cons_self)
    have hi:=qGP hh.2
    have hsm:=qGar (hB.mem (.a d P) (by simp)) (by omega)
    have h1:=qPac (qLm ((hB.mem b (by simp)).mono (Nat.le_add_right B 1)) (by omega))
    rw[qEA,qBA (by omega),qBA (by simp),qEA,qBA (by omega),qBA (by simp),i0,i1,qZ2,qZ3,qZ3,hi.2.1]
    have e:encS (.a d P)=qTH d P:=rfl
    rw[e,qEar (N:=100000) (by omega) hP.incr hsm (by omega),qAA]
    rfl
   ·exact absurd rfl hs
  ·omega
 rw[if_neg e18] at hs
 rw[qDA e18,if_neg e18]
 by_cases e19:nOp n=19
 ·rw[e19] at hc
  rw[if_pos e19] at hs
  rw[qHA e19,if_pos e19]
  rcases vs with _ | ⟨a,_ | ⟨b,_ | ⟨c,_ | ⟨d,l⟩⟩⟩⟩<;>simp[qHB] at hc
  ·simp only[List.map_cons,List.map_nil,qZ3,qZ2] at hs ⊢
   split at hs
   ·rename_i hh
    obtain ⟨d,P,rfl⟩:=qKad hh.1
    have hP:Canon d P:=hok _ (List.mem_cons_self)
    have hi:=qGP hh.2.1
    have hj:=qGP hh.2.2
    have hsm:=qGar (hB.mem (.a d P) (by simp)) (by omega)
    have h1:=qPac (qLm ((hB.mem b (by simp)).mono (Nat.le_add_right B 1)) (by omega))
    rw[qEA,qBA (by omega),qBA (by simp),qEA,qBA (by omega),qBA (by simp),qEA,qBA (by omega),qBA (by simp),i0,i1,i2,qZ2,qZ2,qZ2,qZ3,qZ3,qZ3,hi.2.1,hj.2.1]
    have e:encS (.a d P)=qTH d P:=rfl
    rw[e,qJah (N:=100000) (by omega) hP.incr hsm (by omega),qAA]
    rfl
   ·exact absurd rfl hs
  ·omega
 rw[if_neg e19] at hs
 rw[qDA e19,if_neg e19]
 have e20:nOp n=20:=by omega
 rw[e20] at hc
 rw[if_pos e20] at hs
 rcases vs with _ | ⟨a,_ | ⟨b,l⟩⟩<;>simp[qHB] at hc
 ·simp only[List.map_cons,List.map_nil,qZ3] at hs ⊢
  split at hs
  ·rename_i hh
   have hi:=qGP hh
   rw[qEA,qBA (by omega),qBA (by simp),i0,qZ3,hi.2.1]
   rfl
  ·exact absurd rfl hs
 ·omega
end Go.AM.Num
end
section
namespace Go.AM.Num
open Tf
theorem qMah {B:Nat} {a b:SV} (h:Bdd B a) (hB:B<=90000):qQW (encS a) (encS b)=some ((decide (encS a=encS b),()),()):=by
 cases a with
 |a d P=>
  have:=h.2.2
  exact qFV (by simp only[encS,qNF];omega) (by simp only[encS,qJK];omega)
 |b x=>exact qFV (by simp[encS]) (by simp[encS])
 |z x=>exact qFV (by simp[encS]) (by simp[encS])
 |q x=>exact qFV (by simp[encS]) (by simp[encS])
theorem qLao (a b:SV) {i:Decidable (a=b)}:decide (encS a=encS b)=@decide (a=b) i:=by
 rw[decide_eq_decide]
 exact ⟨qMu,fun e=>by rw[e]⟩
theorem qRn {n:Nod} {vs:List SV} {B:Nat} {f:Int} (hn:qLC n=true) (h4:nOp n≠4) (h5:nOp n≠5) (hc:qHB (nOp n) vs.length=true) (hs:qTC n f (vs.map qVH)≠0)
 (hok:∀ v∈vs,okS v) (hB:Hs vs B) (hB9:B<=90000) (hnn:Ht 75 (qMc n)) (hl:vs.length<=100000):qTT n (vs.map encS)=some ((encS (opV n vs),()),()):=by
 have hlm:(vs.map encS).length<=1000000000:=by rw[List.length_map];omega
 have htr:∀ b:Bool,qON b=some ((encS (.b b),()),()):=fun b=>rfl
 by_cases hbig:nOp n=3\/14<=nOp n
 ·unfold qTT
  have hO:n.1=nOp n:=rfl
  rw[hO,qDA (by omega),qDA (by omega),qDA (by omega),qDA (by omega),qDA (by omega),qDA (by omega),qDA (by omega),qDA (by omega),qDA (by omega),qDA (by omega),
   qFn hn h4 h5 hbig hc hs hok hB hB9 hnn hl,qAA]
 unfold qTT opV
 have hO:n.1=nOp n:=rfl
 rw[hO]
 simp only[qSn hlm,qHr hlm,qSam,qUaq,qAA,htr,Bool.not_not]
 by_cases e1:nOp n=1
 ·rw[qHA e1,if_pos (.inl e1)]
 rw[qDA e1]
 by_cases e7:nOp n=7
 ·rw[qHA e7,if_pos (.inr e7)]
 rw[qDA e7,if_neg (by omega)]
 by_cases e2:nOp n=2
 ·rw[qHA e2,if_pos (.inl e2)]
 rw[qDA e2]
 by_cases e8:nOp n=8
 ·rw[qHA e8,if_pos (.inr e8)]
 rw[qDA e8,if_neg (by omega)]
 by_cases e6:nOp n=6
 ·rw[e6] at hc
  rw[qHA e6,if_pos e6]
  rcases vs with _ | ⟨a,_ | ⟨b,l⟩⟩<;>simp[qHB] at hc
  ·simp only[List.map_cons,List.map_nil,qZ3]
   rw[qEA,qBA (by omega),qBA (by simp),i0,qZ3]
   unfold qEs
   rw[qAA,qXU]
  ·omega
 rw[qDA e6,if_neg e6]
 by_cases e9:nOp n=9
 ·rw[e9] at hc
  rw[qHA e9,if_pos e9]
  rcases vs with _ | ⟨a,_ | ⟨b,_ | ⟨c,l⟩⟩⟩<;>simp[qHB] at hc
  ·simp only[List.map_cons,List.map_nil,qZ3,qZ2]
   rw[qEA,qBA (by omega),qBA (by simp),qEA,qBA (by omega),qBA (by simp),i0,i1,qZ2,qZ3,qZ3]
   unfold qEs v_is
   simp only[qAA,qXU,htr]
   cases isT a<;>rfl
  ·omega
 rw[qDA e9,if_neg e9]
 by_cases e10:nOp n=10
 ·rw[e10] at hc
  rw[qHA e10,if_pos e10]
  rcases vs with _ | ⟨a,_ | ⟨b,_ | ⟨c,_ | ⟨d,l⟩⟩⟩⟩<;>simp[qHB] at hc
  ·simp only[List.map_cons,List.map_nil,qZ3,qZ2]
   rw[qEA,qBA (by omega),qBA (by simp),qEA,qBA (by omega),qBA (by simp),qEA,qBA (by omega),qBA (by simp),i0,i1,i2,qZ2,qZ2,qZ2,qZ3,qZ3,qZ3]
   unfold v_is
   simp only[qAA,qXU]
   cases isT a<;>rfl
  ·omega
 rw[qDA e10,if_neg e10]
 by_cases e11:nOp n=11
 ·rw[e11] at hc
  rw[qHA e11,if_pos e11]
  rcases vs with _ | ⟨a,_ | ⟨b,_ | ⟨c,l⟩⟩⟩<;>simp[qHB] at hc
  ·simp only[List.map_cons,List.map_nil,qZ3,qZ2]
   rw[qEA,qBA (by omega),qBA (by simp),qEA,qBA (by omega),qBA (by simp),i0,i1,qZ2,qZ3,qZ3,qMah (hB.mem a (by simp)) hB9,qAA]
   simp only[qZ3,qZ2]
   exact congrArg (fun x=>some ((encS (SV.b x),()),())) (qLao a b)
  ·omega
 rw[qDA e11,if_neg e11]
 have hnum:nOp n=12\/nOp n=13->∃ a b,vs=[a,b]/\(qVH a=2\/qVH a=3)/\(qVH b=2\/qVH b=3):=by
  intro ho
  have hc2:vs.length=2:=by
   rcases ho with ho | ho<;>rw[ho] at hc<;>simp[qHB] at hc<;>omega
  unfold qTC at hs
  rw[if_neg (by omega),if_neg (by omega),if_neg (by omega),if_neg (by omega),if_pos ho] at hs
  rcases vs with _ | ⟨a,_ | ⟨b,_ | ⟨c,l⟩⟩⟩<;>simp at hc2
  ·simp only[List.map_cons,List.map_nil,qZ3] at hs
   split at hs
   ·rename_i hh
    have hb:qVH b=qVH a:=hh.2 _ (by simp)
    exact ⟨a,b,rfl,hh.1,by rw[hb];exact hh.1⟩
   ·exact absurd rfl hs
 by_cases e12:nOp n=12
 ·obtain ⟨a,b,rfl,ha,hb⟩:=hnum (.inl e12)
  have qa:=(qRS ((hB.mem a (by simp)).mono (Nat.le_add_right B 1)) (by omega)).D
  have qb:=(qRS ((hB.mem b (by simp)).mono (Nat.le_add_right B 1)) (by omega)).D
  rw[qHA e12,if_pos e12]
  simp only[List.map_cons,List.map_nil,qZ3,qZ2]
  rw[qEA,qBA (by omega),qBA (by simp),qEA,qBA (by omega),qBA (by simp),i0,i1,qZ2,qZ3,qZ3,qXW ha,qXW hb,qEao (by omega) (by omega),qAA]
  simp only[qZ3,qZ2]
  have e:decide ((qDT a - qDT b).num.sign<=0)=decide (qDT a<=qDT b):=by rw[decide_eq_decide];exact qIak _ _
  rw[e]
 rw[qDA e12,if_neg e12]
 by_cases e13:nOp n=13
 ·obtain ⟨a,b,rfl,ha,hb⟩:=hnum (.inr e13)
  have qa:=(qRS ((hB.mem a (by simp)).mono (Nat.le_add_right B 1)) (by omega)).D
  have qb:=(qRS ((hB.mem b (by simp)).mono (Nat.le_add_right B 1)) (by omega)).D
  rw[qHA e13,if_pos e13]
  simp only[List.map_cons,List.map_nil,qZ3,qZ2]
  rw[qEA,qBA (by omega),qBA (by simp),qEA,qBA (by omega),qBA (by simp),i0,i1,qZ2,qZ3,qZ3,qXW ha,qXW hb,qEao (by omega) (by omega),qAA]
  simp only[qZ3,qZ2]
  have e:decide ((qDT a - qDT b).num.sign < 0)=decide (qDT a < qDT b):=by rw[decide_eq_decide];exact qTak _ _
  rw[e]
 exfalso
 clear hO hnum htr hs
 unfold qLC at hn
 rw[if_neg (by omega),if_neg (by omega),if_neg (by omega)] at hn
 simp only[qY0,decide_eq_true_eq] at hn
 omega
abbrev Em:=List (qBs×Val)
abbrev Fm:=List (qBs×Interp)
structure EM (A:qBs->Option SV) (G:Nod->List SV->Int ⊕ SV) (env:Em) (fns:Fm):Prop where
 var:∀ nm,qGD nm env=(A nm).map encS
 call:∀ t p n vs B,Hs vs B->B<=90000->qMN (t,p,env,fns) n (vs.map encS)=some ((match G n vs with | .inl e=>(qEK,e,()) | .inr v=>(encS v,0,())),((t,p,env,fns),()))
def qQak (A:qBs->Option SV) (G:Nod->List SV->Int ⊕ SV) (env:Em) (fns:Fm) (t:List Nod) (nx:Evl->Option ((Val×Int×Unit)×(Evl×Unit))) (d:Nat):Prop:=
 ∀ (n:Nod) (k:Tf) (p:Nat) (rest:List Nod),t.drop p=n::(k.flat++rest)->(cons n k nil).wf=true->(0:Int)∉(cons n k nil).srt->qJg (cons n k nil)->k.dep+1<=d->
  match evF A G (cons n k nil) with
  |.inl e=>∃ y,nx (t,(p:Int),env,fns)=some ((qEK,e,()),(y,()))
  |.inr [v]=>nx (t,(p:Int),env,fns)=some ((encS v,0,()),((t,((p+1+k.size:Nat):Int),env,fns),()))
  |.inr _=>False
theorem qGao {A:qBs->Option SV} {G:Nod->List SV->Int ⊕ SV} (hE:EA A G) {env:Em} {fns:Fm} {t:List Nod} (ht:t.length<=20000) {nx:Evl->Option ((Val×Int×Unit)×(Evl×Unit))} {d:Nat} (hnx:qQak A G env fns t nx d) (m:Nod) :
 ∀ (k:Tf) (p:Nat) (rest:List Nod) (acc:List Val) (idx:Nat) (K:Int),t.drop p=k.flat++rest->k.wf=true->(0:Int)∉k.srt->qJg k->k.dep<=d->((idx+k.len:Nat):Int)=K->acc.length+k.len<=100000->idx+k.len<=100000->
 match evF A G k with
 |.inl e=>∃ y x,qOA (qUB nx) ((t,(p:Int),env,fns),qEK,(0:Int),m,acc,K,(idx:Int),())=some (.ret,(y,qEK,e,m,x))
 |.inr vs=>qOA (qUB nx) ((t,(p:Int),env,fns),qEK,(0:Int),m,acc,K,(idx:Int),())=some (.exit 0,((t,((p+k.size:Nat):Int),env,fns),qEK,(0:Int),m,acc++vs.map encS,K,K,())):=by
 intro k
 induction k with
 |nil=>
  intro p rest acc idx K _ _ _ _ _ hK _ _
  simp only[evF]
  simp only[len,Nat.add_zero] at hK
  refine qWA ?_ (by simp)
  unfold qUB
  simp only
  rw[qNA (by omega),hK]
  simp[size]
 |cons n k r ik ir=>
  intro p rest acc idx K hd hw hs hn hdep hK h1 h2
  obtain ⟨w1,w2,w3,w4⟩:=qFJ.1 hw
  obtain ⟨s1,s2,s3⟩:=qWM.1 hs
  simp only[dep] at hdep
  simp only[len] at hK h1 h2
  simp only[flat,qY5,qZ1] at hd
  have hsing:=hnx n k p (r.flat++rest) hd (qFJ.2 ⟨w1,w2,w3,rfl⟩) (qWM.2 ⟨s1,s2,by simp[srt]⟩) (fun x hx=>hn x (by simp only[flat,qY12,qZ7] at hx ⊢;rcases hx with h | h | h;exact .inl h;exact .inr (.inl h);cases h)) (by omega)
  have hne:∀ e,evF A G (cons n k nil)=.inl e->e≠0:=by
   intro e he
   have hgen:∀ (f:Tf) e,evF A G f=.inl e->e≠0:=by
    intro f
    induction f with
    |nil=>intro e h;simp[evF] at h
    |cons a b c ib ic=>
     intro e h
     simp only[evF] at h
     split at h
     ·rename_i e' hb
      cases h;exact ib _ hb
     ·split at h
      ·rename_i e' hv
       cases h
       unfold evN at hv
       split at hv
       ·split at hv
        ·cases hv;decide
        ·split at hv
         ·cases hv
         ·cases hv;decide
       ·split at hv
        ·exact hE.er _ _ _ hv
        ·cases hv
      ·split at h
       ·rename_i e' hc
        cases h;exact ic _ hc
       ·cases h
   exact hgen _ e he
  have hlen:p+1+k.size+r.size+rest.length=t.length:=by
   have:=congrArg List.length hd
   simp only[List.length_drop,qY11,qZ6,qXD] at this
   omega
  have hd':t.drop (p+1+k.size)=r.flat++rest:=by
   have:=congrArg (List.drop (1+k.size)) hd
   rw[List.drop_drop] at this
   have e:p+(1+k.size)=p+1+k.size:=by omega
   rw[e] at this
   rw[this,Nat.add_comm 1,List.drop_succ_cons,List.drop_append_of_le_length (by rw[qXD];omega),qY7 (by rw[qXD];omega),qY15]
  have hsplit:evF A G (cons n k r)=match evF A G (cons n k nil) with
   |.inl e=>.inl e
   |.inr us=>match evF A G r with
    |.inl e=>.inl e
    |.inr ws=>.inr (us++ws):=by
   simp only[evF]
   cases evF A G k with
   |inl e=>rfl
   |inr vs=>
    simp only
    cases evN A G n vs with
    |inl e=>rfl
    |inr v=>
     simp only
     cases evF A G r<;>rfl
  rw[hsplit]
  cases he:evF A G (cons n k nil) with
  |inl e=>
   rw[he] at hsing
   obtain ⟨y,hy⟩:=hsing
   simp only
   refine ⟨y,_,qWA (y:=(y,qEK,e,m,acc,K,(idx:Int),())) ?_ (by simp)⟩
   unfold qUB
   simp only
   rw[qIA (by omega),hy,qAA,qVE (hne e he)]
  |inr us=>
   rw[he] at hsing
   match us,hsing with
   |[v],hsing=>
    simp only at hsing ⊢
    have hgo:qUB nx ((t,(p:Int),env,fns),qEK,(0:Int),m,acc,K,(idx:Int),())=some (.normal,((t,((p+1+k.size:Nat):Int),env,fns),qEK,(0:Int),m,acc++[encS v],K,((idx+1:Nat):Int),())):=by
     unfold qUB
     simp only
     rw[qIA (by omega),hsing,qAA,qDE rfl,qBA (by simp[qXE];omega),w64 (by omega)]
     rfl
    have ihr:=ir (p+1+k.size) rest (acc++[encS v]) (idx+1) K hd' w4 s3 (fun x hx=>hn x (by simp only[flat,qY12,qZ7];exact .inr (.inr hx))) (by omega) (by omega) (by simp;omega) (by omega)
    cases hr:evF A G r with
    |inl e=>
     rw[hr] at ihr
     obtain ⟨y,x,h⟩:=ihr
     exact ⟨y,x,by rw[qAB hgo,h]⟩
    |inr ws=>
     rw[hr] at ihr
     simp only at ihr ⊢
     rw[qAB hgo,ihr]
     have e:p+1+k.size+r.size=p+(cons n k r).size:=by simp only[size];omega
     rw[e]
     simp
theorem qHam {A:qBs->Option SV} {G:Nod->List SV->Int ⊕ SV} (hE:EA A G) {env:Em} {fns:Fm} (hM:EM A G env fns) {t:List Nod} (ht:t.length<=1100) :
 ∀ d,qQak A G env fns t (qQC d) d:=by
 intro d
 induction d with
 |zero=>intro n k p rest _ _ _ _ h;omega
 |succ d ih=>
  intro n k p rest hd hw hs hn hdep
  obtain ⟨w1,w2,w3,w4⟩:=qFJ.1 hw
  obtain ⟨s1,s2,s3⟩:=qWM.1 hs
  obtain ⟨g1,g2⟩:=qWL (d:=qSE) hd
  have hnk:qJg k:=fun m hm=>hn m (by simp only[flat,qY12,qZ7];exact .inr (.inl hm))
  have hd':t.drop (p+1)=k.flat++rest:=by
   have:=congrArg (List.drop 1) hd
   rw[List.drop_drop] at this
   simpa using this
  have hlen:p+1+k.size+rest.length=t.length:=by
   have:=congrArg List.length hd
   simp only[List.length_drop,qY11,qZ6,qXD] at this
   omega
  have hkl:=qBL k
  have hkids:=qGao hE (by omega) ih n k (p+1) rest [] 0 (k.len:Int) hd' w3 s1 hnk (by omega) (by simp) (by simp;omega) (by omega)
  have hK:n.2.2.2.2=(k.len:Int):=w2
  have hwp:qI ((p:Int)+1)=((p+1:Nat):Int):=by rw[w64 (by omega)];rfl
  have hunf:qQC (d+1) (t,(p:Int),env,fns)=qAI (qQC d) (t,(p:Int),env,fns):=rfl
  rw[hunf]
  unfold qAI
  simp only
  rw[qEA,qBA (by omega),qBA (by omega),qZ0,g1,hK,hwp]
  rw[show ((0:Nat):Int)=0 from rfl] at hkids
  simp only[evF]
  cases hk:evF A G k with
  |inl e=>
   rw[hk] at hkids
   obtain ⟨y,x,h⟩:=hkids
   simp only
   refine ⟨y,?_⟩
   have h':qOA (qUB (qQC d)) ((t,((p+1:Nat):Int),env,fns),((0:Int),false,([]:qBs),([]:List qBs),([]:List qBs)),0,n,([]:List Val),(k.len:Int),0,())=some (.ret,(y,qEK,e,n,x)):=h
   rw[h']
   simp only[qAA,qCF,qBF,qPA,qBB]
  |inr vs=>
   rw[hk] at hkids
   obtain ⟨e1,e2,e3⟩:=qVB hE k w3 s1 hnk vs hk
   simp only at hkids ⊢
   have h':qOA (qUB (qQC d)) ((t,((p+1:Nat):Int),env,fns),((0:Int),false,([]:qBs),([]:List qBs),([]:List qBs)),0,n,([]:List Val),(k.len:Int),0,())=some (.exit 0,((t,((p+1+k.size:Nat):Int),env,fns),qEK,(0:Int),n,[]++vs.map encS,(k.len:Int),(k.len:Int),())):=hkids
   rw[h']
   simp only[qAA,qDC,qPA,qY15]
   have hO:n.1=nOp n:=rfl
   rw[hO]
   have hvl:vs.length=k.len:=by
    have:=congrArg List.length e1
    rw[List.length_map,qDM] at this
    exact this
   unfold evN
   by_cases h4:nOp n=4
   ·rw[qHA h4,if_pos h4]
    unfold qBJ
    simp only
    have hv:=hM.var n.2.2.1
    have hA:A (qAO n)=A n.2.2.1:=rfl
    rw[hA,hv]
    cases A n.2.2.1 with
    |none=>exact ⟨_,rfl⟩
    |some v=>
     simp only[Option.map_some,Option.isSome_some,qY2,qBB,Option.getD_some,qLV]
     by_cases q:qVH v=n.2.1
     ·rw[qDE q,if_pos q]
      rfl
     ·rw[qVE q,if_neg q]
      exact ⟨_,rfl⟩
   ·rw[qDA h4,if_neg h4]
    by_cases h5:nOp n=5
    ·rw[qHA h5,if_pos h5,hM.call t _ n vs _ e3 (by omega)]
     cases G n vs with
     |inl e=>exact ⟨_,rfl⟩
     |inr v=>rfl
    ·rw[qDA h5,if_neg h5]
     obtain ⟨f1,f2⟩:=qHW.1 w1
     rw[qRn (f:=op1 k) f1 h4 h5 (by rw[hvl,<-w2];exact f2) (by rw[e1];exact s2) e2 e3 (by omega) (qUae (hn n (by simp[flat]))) (by omega)]
     rfl
end Go.AM.Num
end
section
namespace Go.AM.Num
open Tf
open Classical in
noncomputable def decS (v:Val):Option SV:=if h:∃ s,okS s/\v=encS s then some h.choose else none
theorem qUi {v:Val} (h:qNG v=true):∃ s,decS v=some s/\okS s/\v=encS s:=by
 have h':=qQs.1 h
 refine ⟨h'.choose,?_,h'.choose_spec.1,h'.choose_spec.2⟩
 unfold decS
 rw[dif_pos h']
theorem qUaa {v:Val} {s:SV} (h:decS v=some s):okS s/\v=encS s:=by
 unfold decS at h
 split at h
 ·rename_i hh
  cases h;exact hh.choose_spec
 ·cases h
theorem qIai {s:SV} (h:okS s):decS (encS s)=some s:=by
 obtain ⟨s',h1,h2,h3⟩:=qUi (qWf h)
 rw[h1,qMu h3]
structure SmallV (v:Val):Prop where
 sh:Short 73 v
 few:v.2.2.2.1.length<=75
theorem qLah {z:Int} (h:(ti z).length<=73):Ht 75 (z:Rat):=by
 have:=D_le (z:Rat)
 exact qFp (by unfold ti at h;omega)
theorem qJai {s:SV} (h:SmallV (encS s)):Bdd 75 s:=by
 cases s with
 |b x=>trivial
 |z n=>exact qLah h.sh.num
 |q r=>
  have h1:(txt r).length<=73:=h.sh.num
  have:=D_le r
  exact qFp (by omega)
 |a d P=>
  have hs:=qBat (d:=d) (P:=P) h.sh
  have hf:(ks P).length<=75:=h.few
  rw[qNF] at hf
  exact ⟨qLah hs.num,fun p hp=>⟨qLah (hs.els p hp).1,qLah (hs.els p hp).2⟩,hf⟩
noncomputable def qNy (env:List qRV) (nm:qBs):Option SV:=(env.find? fun b=>decide (b.1=nm)).bind fun b=>decS b.2
def G0:Nod->List SV->Int ⊕ SV:=fun _ _=>.inl 4
theorem qFad {env:List qRV} (hs:∀ b∈env,SmallV b.2):EA (qNy env) G0:=by
 refine ⟨fun nm v h=>?_,fun n vs v h=>by simp[G0] at h,fun n vs e h=>by simp only[G0,Sum.inl.injEq] at h;subst h;decide⟩
 unfold qNy at h
 simp only[Option.bind_eq_some_iff] at h
 obtain ⟨b,h1,h2⟩:=h
 obtain ⟨a1,a2⟩:=qUaa h2
 exact ⟨a1,qJai (by rw[<-a2];exact hs b (List.mem_of_find?_eq_some h1))⟩
theorem qDl {env:List qRV} (hs:∀ b∈env,SmallV b.2) (hl:env.length<=1000000000):∀ (m p:Nat) (out:Em),p+m=env.length->(∀ b∈env.take p,qNG b.2=true)->(∀ nm,qGD nm out=((env.take p).find? fun b=>decide (b.1=nm)).map (·.2))->
 ((¬ ∀ b∈env,qNG b.2=true)/\∃ x,qOA qEG (([]:Em),false,out,env,(env.length:Int),(p:Int),())=some (.ret,(([]:Em),false,x)))\/
 ((∀ b∈env,qNG b.2=true)/\∃ out' x,(∀ nm,qGD nm out'=(env.find? fun b=>decide (b.1=nm)).map (·.2))/\qOA qEG (([]:Em),false,out,env,(env.length:Int),(p:Int),())=some (.exit 0,(([]:Em),false,out',x))):=by
 intro m
 induction m with
 |zero=>
  intro p out hp hv ho
  have e:env.take p=env:=List.take_of_length_le (by omega)
  rw[e] at hv ho
  exact .inr ⟨hv,out,_,ho,qWA (by unfold qEG;simp only;rw[qNA (by omega)]) (by simp)⟩
 |succ m ih=>
  intro p out hp hv ho
  have hlt:p < env.length:=by omega
  have hg:env.getD p qIac=env[p]:=by simp[qZ4,hlt]
  have hmem:env[p]∈env:=List.getElem_mem hlt
  have htk:env.take (p+1)=env.take p++[env[p]]:=by rw[List.take_add_one,qZ5 hlt];rfl
  generalize env[p]=b at hg hmem htk
  have hvb:=qJv (N:=73) (by omega) (hs b hmem).sh
  by_cases hb:qNG b.2=false
  ·refine .inl ⟨fun h=>(by rw[h b hmem] at hb;cases hb),_,qWA (by
    unfold qEG
    simp only
    rw[qIA (by omega),qEA,qBA (by omega),qBA (by omega),qZ0,hg,hvb,qAA]
    rw[hb]
    rfl) (by simp)⟩
  rw[Bool.not_eq_false] at hb
  have hv':∀ c∈env.take (p+1),qNG c.2=true:=by
   intro c hc
   rw[htk,qZ7,qZ8] at hc
   rcases hc with hc | rfl
   ·exact hv c hc
   ·exact hb
  have hstep:∃ out',(∀ nm,qGD nm out'=((env.take (p+1)).find? fun b=>decide (b.1=nm)).map (·.2))/\qEG (([]:Em),false,out,env,(env.length:Int),(p:Int),())=some (.normal,(([]:Em),false,out',env,(env.length:Int),((p+1:Nat):Int),())):=by
   unfold qEG
   simp only
   rw[qIA (by omega),qEA,qBA (by omega),qBA (by omega),qZ0,hg,hvb,qAA,hb,w64 (by omega)]
   simp only[qY2,qBB]
   have hob:=ho b.1
   cases hlk:qGD b.1 out with
   |none=>
    simp only[Option.isSome_none,qY1,qPA]
    refine ⟨_,fun nm=>?_,rfl⟩
    rw[htk,List.find?_append]
    rw[hlk] at hob
    have hn:(env.take p).find? (fun c=>decide (c.1=b.1))=none:=by
     cases hf:(env.take p).find? (fun c=>decide (c.1=b.1)) with
     |none=>rfl
     |some c=>rw[hf] at hob;cases hob
    by_cases e:nm=b.1
    ·subst e
     rw[qML,hn]
     simp
    ·rw[qBP e,ho nm]
     have:[b].find? (fun c=>decide (c.1=nm))=none:=by
      rw[List.find?_eq_none]
      intro c hc
      rw[qZ8] at hc
      subst hc
      simpa using fun h=>e h.symm
     rw[this]
     cases (env.take p).find? (fun c=>decide (c.1=nm))<;>rfl
   |some v=>
    simp only[Option.isSome_some,qY2,qBB]
    refine ⟨_,fun nm=>?_,rfl⟩
    rw[htk,List.find?_append,ho nm]
    cases hf:(env.take p).find? (fun c=>decide (c.1=nm)) with
    |some c=>rfl
    |none=>
     have:[b].find? (fun c=>decide (c.1=nm))=none:=by
      rw[List.find?_eq_none]
      intro c hc
      rw[qZ8] at hc
      subst hc
      simp only[decide_eq_true_eq]
      intro h
      rw[hlk,h,hf] at hob
      cases hob
     rw[this]
     rfl
  obtain ⟨out',h1,h2⟩:=hstep
  rw[qAB h2]
  exact ih (p+1) out' (by omega) hv' h1
theorem qAl {env:List qRV} (hs:∀ b∈env,SmallV b.2) (hl:env.length<=1000000000) :
 ((¬ ∀ b∈env,qNG b.2=true)/\qJR env=some (([],false,()),()))\/((∀ b∈env,qNG b.2=true)/\∃ out,(∀ nm,qGD nm out=(qNy env nm).map encS)/\qJR env=some ((out,true,()),())):=by
 unfold qJR
 rcases qDl hs hl env.length 0 [] (by omega) (fun b hb=>by simp at hb) (fun nm=>by simp[qGD]) with ⟨h1,x,h2⟩ | ⟨h1,out,x,h2,h3⟩
 ·rw[show ((0:Nat):Int)=0 from rfl] at h2
  rw[h2]
  simp only[qAA,qCF,qBF,qPA,qBB]
  exact .inl ⟨h1,by first | rfl | trivial⟩
 ·rw[show ((0:Nat):Int)=0 from rfl] at h3
  rw[h3]
  simp only[qAA,qDC,qPA]
  refine .inr ⟨h1,out,fun nm=>?_,rfl⟩
  rw[h2]
  unfold qNy
  cases hf:env.find? (fun b=>decide (b.1=nm)) with
  |none=>rfl
  |some b=>
   obtain ⟨s,s1,s2,s3⟩:=qUi (h1 b (List.mem_of_find?_eq_some hf))
   rw[Option.map_some,Option.bind_some,s1,s3]
   rfl
open Classical in
noncomputable def qDx (t:List Nod) (env:List qRV):Val×Int:=
 if h:(∀ b∈env,qNG b.2=true)/\∃ F,VT t F then
  (match evF (qNy env) G0 h.2.choose with
  |.inl e=>(qEK,e)
  |.inr [v]=>(encS v,0)
  |.inr _=>(qEK,1))
 else (qEK,1)
theorem qPu {t:List Nod} {env:List qRV} {F:Tf} (hv:∀ b∈env,qNG b.2=true) (hF:VT t F):qDx t env=match evF (qNy env) G0 F with
 |.inl e=>(qEK,e)
 |.inr [v]=>(encS v,0)
 |.inr _=>(qEK,1):=by
 have h:(∀ b∈env,qNG b.2=true)/\∃ F,VT t F:=⟨hv,F,hF⟩
 unfold qDx
 rw[dif_pos h,h.2.choose_spec.uniq hF]
theorem qTn {t:List Nod} {env:List qRV} (h:¬ ((∀ b∈env,qNG b.2=true)/\∃ F,VT t F)):qDx t env=(qEK,1):=by unfold qDx;rw[dif_neg h]
theorem qEW:qXa []=some (([],true,()),()):=by kernel_rfl
def qDae (t:List Nod):Prop:=∀ n∈t,(qSQ n).length<=73
theorem qOae {B:Nat} {v:SV} (h:Bdd B v) (hB:B<=90000):qCb (encS v)=some ((encS v,()),()):=by
 cases v with
 |a d P=>have:=h.2.2;exact qPZ (by simp only[encS,qNF];omega) (by simp only[encS,qJK];omega)
 |b x=>exact qPZ (by simp[encS]) (by simp[encS])
 |z x=>exact qPZ (by simp[encS]) (by simp[encS])
 |q x=>exact qPZ (by simp[encS]) (by simp[encS])
theorem qRam {A:qBs->Option SV} {G:Nod->List SV->Int ⊕ SV} {n:Nod} {k:Tf}:(∃ e,evF A G (cons n k nil)=.inl e)\/∃ v,evF A G (cons n k nil)=.inr [v]:=by
 simp only[evF]
 cases evF A G k with
 |inl e=>exact .inl ⟨e,rfl⟩
 |inr vs=>
  simp only
  cases evN A G n vs with
  |inl e=>exact .inl ⟨e,rfl⟩
  |inr v=>exact .inr ⟨v,rfl⟩
theorem qSar {A:qBs->Option SV} {G:Nod->List SV->Int ⊕ SV} (hE:EA A G):∀ (f:Tf) e,evF A G f=.inl e->e≠0:=by
 intro f
 induction f with
 |nil=>intro e h;simp[evF] at h
 |cons a b c ib ic=>
  intro e h
  simp only[evF] at h
  split at h
  ·rename_i e' hb
   cases h;exact ib _ hb
  ·split at h
   ·rename_i e' hv
    cases h
    unfold evN at hv
    split at hv
    ·split at hv
     ·cases hv;decide
     ·split at hv
      ·cases hv
      ·cases hv;decide
    ·split at hv
     ·exact hE.er _ _ _ hv
     ·cases hv
   ·split at h
    ·rename_i e' hc
     cases h;exact ic _ hc
    ·cases h
theorem qGae {t:List Nod} {env:List qRV} (ht:qDae t) (hl:t.length<=1100) (hs:∀ b∈env,SmallV b.2) (he:env.length<=1000000000):qIQ t env []=some (((qDx t env).1,(qDx t env).2,()),()):=by
 unfold qIQ
 rcases qAl hs he with ⟨h1,h2⟩ | ⟨h1,out,h2,h3⟩
 ·rw[h2,qEW,qTn fun h=>h1 h.1]
  rfl
 rw[h3,qEW]
 simp only[qAA,qY2,qBB]
 obtain ⟨b,b1,b2⟩:=qCv (t:=t) fun n hn=>by have:=ht n hn;omega
 rw[b1,qAA]
 cases b with
 |false=>rw[qTn fun h=>by have:=b2.2 h.2;cases this];rfl
 |true=>
  simp only[qY2,qBB]
  obtain ⟨F,hF⟩:=b2.1 rfl
  rw[qPu h1 hF]
  obtain ⟨n,k,rfl⟩:=hF.one
  have hE:=qFad hs
  have hM:EM (qNy env) G0 out []:=⟨h2,fun t p n vs B _ _=>rfl⟩
  have hfl:=hF.flat
  obtain ⟨d,hd1,hd2⟩:∃ d,big=d/\258<=d:=⟨big,rfl,by decide⟩
  have hdep:=hF.dep
  simp only[dep] at hdep
  have hsF:qJg (cons n k nil):=fun m hm=>ht m (by rw[<-hfl];exact hm)
  have hnx:=qHam hE hM hl d n k 0 [] (by rw[<-hfl];simp[flat]) hF.wf hF.srt hsF (by omega)
  rw[hd1]
  rw[show ((0:Nat):Int)=0 from rfl] at hnx
  rcases qRam (A:=qNy env) (G:=G0) (n:=n) (k:=k) with ⟨e,hev⟩ | ⟨v,hev⟩
  ·rw[hev] at hnx ⊢
   obtain ⟨y,hy⟩:=hnx
   rw[hy,qAA,qVE (qSar hE _ _ hev)]
  ·rw[hev] at hnx ⊢
   simp only at hnx ⊢
   rw[hnx,qAA,qDE rfl]
   obtain ⟨_,_,q3⟩:=qVB hE _ hF.wf hF.srt hsF _ hev
   have hz:(cons n k nil).size<=1100:=by rw[<-qXD,hfl];exact hl
   rw[qOae (q3.mem v (by simp)) (by omega),qAA]
end Go.AM.Num
end
section
namespace Go.AM.Num
open Tf
structure VSok (VS:List Vr):Prop where
 name:∀ v∈VS,qTh v.1=true/\1<=v.2/\v.2<=4
 once:∀ v∈VS,∀ w∈VS,v.1=w.1->v=w
structure GenF (VS:List Vr) (ss:List Int) (N d:Nat) (l:List Nod) (K:Tf):Prop where
 flat:K.flat=l
 wf:K.wf=true
 srt:K.srt=ss
 nz:(0:Int)∉ss
 sh:qDae l
 size:K.size<=N
 dep:K.dep<=d
 vars:∀ x∈l,nOp x=4->(qAO x,qQF x)∈VS
 noap:∀ x∈l,nOp x≠5
def qTP (VS:List Vr) (ss:List Int) (N d:Nat) (l:List Nod):Prop:=∃ K,GenF VS ss N d l K
theorem qTP.nil (VS:List Vr):qTP VS [] 0 0 []:=⟨Tf.nil,rfl,rfl,rfl,by simp,fun _ h=>absurd h qY16,Nat.le_refl _,Nat.le_refl _,fun _ h=>absurd h qY16,fun _ h=>absurd h qY16⟩
theorem qTP.mono {VS:List Vr} {ss:List Int} {N M d e:Nat} {l:List Nod} (h:qTP VS ss N d l) (hN:N<=M) (hd:d<=e):qTP VS ss M e l:=by
 obtain ⟨K,hK⟩:=h
 exact ⟨K,hK.flat,hK.wf,hK.srt,hK.nz,hK.sh,by have:=hK.size;omega,by have:=hK.dep;omega,hK.vars,hK.noap⟩
theorem qTP.app {VS:List Vr} {ss uu:List Int} {N M d:Nat} {l m:List Nod} (h:qTP VS ss N d l) (g:qTP VS uu M d m):qTP VS (ss++uu) (N+M) d (l++m):=by
 obtain ⟨K,hK⟩:=h
 obtain ⟨L,hL⟩:=g
 refine ⟨K.app L,by rw[qWU,hK.flat,hL.flat],by rw[qNn,hK.wf,hL.wf];rfl,by rw[qVa,hK.srt,hL.srt],?_,?_,?_,?_,?_,?_⟩
 ·rw[qZ7];exact fun h=>h.elim hK.nz hL.nz
 ·exact fun x hx=>(List.mem_append.1 hx).elim (hK.sh x) (hL.sh x)
 ·rw[qVc];have:=hK.size;have:=hL.size;omega
 ·rw[qCr];have:=hK.dep;have:=hL.dep;omega
 ·exact fun x hx=>(List.mem_append.1 hx).elim (hK.vars x) (hL.vars x)
 ·exact fun x hx=>(List.mem_append.1 hx).elim (hK.noap x) (hL.noap x)
theorem qPs {K:Tf} {l:List Nod} (h:K.flat=l):op1 K=(l.getD 0 qSE).1:=by
 subst h
 cases K<;>rfl
theorem qTP.node {VS:List Vr} {ss:List Int} {N d:Nat} {l:List Nod} (h:qTP VS ss N d l) {n:Nod} {s:Int} (hf:qLC n=true) (hc:qHB (nOp n) ss.length=true) (hk:qEF n=(ss.length:Int)) (hs:qTC n (l.getD 0 qSE).1 ss=s) (hz:s≠0)
 (hnum:(qSQ n).length<=73) (hv:nOp n=4->(qAO n,qQF n)∈VS) (ha:nOp n≠5):qTP VS [s] (N+1) (d+1) (n::l):=by
 obtain ⟨K,hK⟩:=h
 have hl:K.len=ss.length:=by rw[<-qDM,hK.srt]
 refine ⟨cons n K Tf.nil,by simp[Tf.flat,hK.flat],qFJ.2 ⟨qHW.2 ⟨hf,by rw[hk];exact hc⟩,by rw[hl];exact hk,hK.wf,rfl⟩,?_,?_,?_,?_,?_,?_,?_⟩
 ·simp only[Tf.srt,hK.srt]
  rw[if_neg hK.nz,qPs hK.flat,hs]
 ·simp[Ne.symm hz]
 ·intro x hx
  rcases List.mem_cons.1 hx with rfl | hx
  ·exact hnum
  ·exact hK.sh x hx
 ·simp only[Tf.size];have:=hK.size;omega
 ·simp only[Tf.dep];have:=hK.dep;omega
 ·intro x hx
  rcases List.mem_cons.1 hx with rfl | hx
  ·exact hv
  ·exact hK.vars x hx
 ·intro x hx
  rcases List.mem_cons.1 hx with rfl | hx
  ·exact ha
  ·exact hK.noap x hx
theorem qEag {n:Nod} {k:Tf}:∀ {f:Tf},(n,k)∈f.subs->n∈f.flat:=by
 intro f
 induction f with
 |nil=>intro h;simp[subs] at h
 |cons m a b ia ib=>
  intro h
  simp only[subs,qY12,qZ7,Prod.mk.injEq] at h
  simp only[Tf.flat,qY12,qZ7]
  rcases h with ⟨rfl,_⟩ | h | h
  ·exact .inl rfl
  ·exact .inr (.inl (ia h))
  ·exact .inr (.inr (ib h))
theorem qKak {VS:List Vr} (hV:VSok VS) {s:Int} {N d:Nat} {t:List Nod} {F:Tf} (h:GenF VS [s] N d t F) (hN:N<=20000) (hd:d<=257):VT t F:=by
 refine ⟨h.flat,h.wf,by rw[h.srt];exact h.nz,by rw[<-qDM,h.srt];rfl,by have:=h.size;omega,by have:=h.dep;omega,?_⟩
 have key:∀ a∈qSq F,a.2.1=false/\a.2.2.1=[]/\(a.1,a.2.2.2)∈VS:=by
  intro a ha
  obtain ⟨⟨n,k⟩,h1,h2⟩:=List.mem_filterMap.1 ha
  have hm:n∈t:=by rw[<-h.flat];exact qEag h1
  unfold qGS at h2
  split at h2
  ·rename_i h4
   simp only[Option.some.injEq] at h2
   subst h2
   exact ⟨rfl,rfl,h.vars n hm h4⟩
  ·split at h2
   ·rename_i h5
    exact absurd h5 (h.noap n hm)
   ·cases h2
 rintro ⟨a,b,c,e⟩ ha ⟨a',b',c',e'⟩ ha' hn
 obtain ⟨p1,p2,p3⟩:=key _ ha
 obtain ⟨q1,q2,q3⟩:=key _ ha'
 simp only at p1 p2 p3 q1 q2 q3 hn
 have:=hV.once _ p3 _ q3 hn
 simp only[Prod.mk.injEq] at this
 rw[p1,p2,q1,q2,this.1,this.2]
theorem qXaf {A:qBs->Option SV} {G:Nod->List SV->Int ⊕ SV}:∀ (F:Tf),(∀ x∈F.flat,nOp x≠5)->(∀ x∈F.flat,nOp x=4->∃ v,A (qAO x)=some v/\qVH v=qQF x)->∃ vs,evF A G F=.inr vs:=by
 intro F
 induction F with
 |nil=>intro _ _;exact ⟨[],rfl⟩
 |cons n k r ik ir=>
  intro h1 h2
  simp only[Tf.flat,qY12,qZ7] at h1 h2
  obtain ⟨ks,hk⟩:=ik (fun x hx=>h1 x (.inr (.inl hx))) (fun x hx=>h2 x (.inr (.inl hx)))
  obtain ⟨rs,hr⟩:=ir (fun x hx=>h1 x (.inr (.inr hx))) (fun x hx=>h2 x (.inr (.inr hx)))
  have hv:∃ v,evN A G n ks=.inr v:=by
   unfold evN
   split
   ·rename_i h4
    obtain ⟨v,e1,e2⟩:=h2 n (.inl rfl) h4
    rw[e1]
    simp only
    rw[if_pos e2]
    exact ⟨v,rfl⟩
   ·rw[if_neg (h1 n (.inl rfl))]
    exact ⟨_,rfl⟩
  obtain ⟨v,hv⟩:=hv
  simp only[evF,hk,hv,hr]
  exact ⟨_,rfl⟩
theorem qPal {VS:List Vr} (hV:VSok VS) {nm:qBs} {s:Int} (h:(nm,s)∈VS):qTP VS [s] 1 1 [((4:Int),s,nm,([]:qBs),(0:Int))]:=by
 obtain ⟨h1,h2,h3⟩:=hV.name _ h
 exact (qTP.nil VS).node (by simp[nOp,qQF,qAO,qSQ,qLC,h1,h2,h3]) rfl rfl (by simp[nOp,qQF,qTC]) (by simp only at h2;omega) (by simp[qSQ]) (fun _=>h) (by simp[nOp])
theorem qKe {VS:List Vr} {z:Int} (h:(ti z).length<=73):qTP VS [2] 1 1 [((3:Int),(2:Int),([]:qBs),ti z,(0:Int))]:=
 (qTP.nil VS).node (by simp[nOp,qQF,qAO,qSQ,qLC,qUV]) rfl rfl (by simp[nOp,qQF,qTC]) (by omega) h (fun h=>by simp[nOp] at h) (by simp[nOp])
theorem qTac {VS:List Vr} {q:Rat} (h:(txt q).length<=73):qTP VS [3] 1 1 [((3:Int),(3:Int),([]:qBs),txt q,(0:Int))]:=
 (qTP.nil VS).node (by simp[nOp,qQF,qAO,qSQ,qLC,qOK]) rfl rfl (by simp[nOp,qQF,qTC]) (by omega) h (fun h=>by simp[nOp] at h) (by simp[nOp])
theorem qKu {VS:List Vr}:qTP VS [1] 1 1 [((1:Int),(0:Int),([]:qBs),([]:qBs),(0:Int))]:=
 (qTP.nil VS).node (by simp[nOp,qQF,qAO,qSQ,qLC]) rfl rfl (by simp[nOp,qQF,qTC]) (by omega) (by simp[qSQ]) (fun h=>by simp[nOp] at h) (by simp[nOp])
theorem qKm {VS:List Vr}:qTP VS [1] 1 1 [((2:Int),(0:Int),([]:qBs),([]:qBs),(0:Int))]:=
 (qTP.nil VS).node (by simp[nOp,qQF,qAO,qSQ,qLC]) rfl rfl (by simp[nOp,qQF,qTC]) (by omega) (by simp[qSQ]) (fun h=>by simp[nOp] at h) (by simp[nOp])
end Go.AM.Num
end
section
namespace Go.AM.Num
open Tf
def alphaB (c:UInt8):Bool:=(decide (97<=c)&&decide (c<=122))||(decide (65<=c)&&decide (c<=90))
theorem qEp (c:UInt8):qJd (c.toNat:Int)=some ((alphaB c,()),()):=by
 refine qMT (P:=fun c=>qJd (c.toNat:Int)=some ((alphaB c,()),())) ?_ c
 decide +kernel
theorem qWb (c:UInt8):letterB c=(alphaB c||c==95||c==36||c==33):=rfl
theorem qDat (c:UInt8):decide ((c.toNat:Int) < 48)=!decide (48<=c):=by
 refine qMT (P:=fun c=>decide ((c.toNat:Int) < 48)=!decide (48<=c)) ?_ c
 decide +kernel
theorem qZas (c:UInt8):decide ((c.toNat:Int) > 57)=!decide (c<=57):=by
 refine qMT (P:=fun c=>decide ((c.toNat:Int) > 57)=!decide (c<=57)) ?_ c
 decide +kernel
theorem qGas (c:UInt8):((c.toNat:Int)==95)=(c==95):=by
 refine qMT (P:=fun c=>((c.toNat:Int)==95)=(c==95)) ?_ c
 decide +kernel
theorem qAat (c:UInt8):((c.toNat:Int)==36)=(c==36):=by
 refine qMT (P:=fun c=>((c.toNat:Int)==36)=(c==36)) ?_ c
 decide +kernel
theorem qHas (c:UInt8):((c.toNat:Int)==33)=(c==33):=by
 refine qMT (P:=fun c=>((c.toNat:Int)==33)=(c==33)) ?_ c
 decide +kernel
theorem qMao {l:List qBs} {s:qBs} (hl:l.length<=1000000000):r_in l s=some ((decide (s∈l),()),()):=by
 have key:=qOL (step:=qUf) (fun k=>(l,s,false,(k:Int),())) (fun k=>(l,s,true,(k:Int),())) l.length (E:=.exit 0) (B:=.ret) (by simp) (by simp) (fun k=>!(l.getD k []==s)) (fun k hk=>by
  unfold qUf
  simp only
  rw[qIA (by omega),qEA,qBA (by omega),qBA (by omega),qZ0,w64 (x:=(k:Int)+1) (by omega)]
  cases (l.getD k []==s)<;>rfl) (by
  unfold qUf
  simp only
  rw[qNA (by omega)])
 rw[qIR l [] (fun x=>!(x==s))] at key
 rw[show ((0:Nat):Int)=0 from rfl] at key
 unfold r_in
 rcases key with ⟨k1,k2⟩ | ⟨k1,j,k2⟩
 ·rw[k2]
  simp only[qAA,qDC,qPA]
  rw[qZ9]
  intro h
  have:=List.all_eq_true.1 k1 s h
  simp at this
 ·rw[k2]
  simp only[qAA,qCF,qBF,qPA,qBB]
  rw[qZ10]
  by_cases h:s∈l
  ·exact h
  ·rw[List.all_eq_true.2 (fun x hx=>by simp;exact fun e=>h (e ▸ hx))] at k1;cases k1
theorem qQj:qWa=some ((qTi,()),()):=rfl
theorem qKv {s:qBs} (h:s≠[]):(List.range s.length).all (fun k=>if k=0 then letterB (s.getD 0 0) else qKj (s.getD k 0))=(letterB (s.getD 0 0)&&s.all qKj):=by
 have hpos:0 < s.length:=List.length_pos_iff.2 h
 rw[<-qIR s 0 qKj,Bool.eq_iff_iff,qY0,qY3,qY3]
 constructor
 ·intro hh
  have h0:=hh 0 (List.mem_range.2 hpos)
  simp only[if_true] at h0
  refine ⟨h0,fun k hk=>?_⟩
  have hk':=hh k hk
  by_cases e:k=0
  ·subst e
   unfold qKj
   rw[h0];rfl
  ·rw[if_neg e] at hk';exact hk'
 ·rintro ⟨h0,hh⟩ k hk
  split
  ·exact h0
  ·exact hh k hk
theorem qEaa (s:qBs):qVm s=some ((qTh s,()),()):=by
 unfold qVm
 by_cases h0:s=[]
 ·subst h0;decide
 ·rw[show (s==([]:qBs))=false by simpa using h0,qBB]
  have hpos:0 < s.length:=List.length_pos_iff.2 h0
  unfold qTh
  by_cases h1:s.length<=40
  ·rw[qNA (by omega),qZ10 h1,qQj,qAA]
   simp only
   rw[qMao (by decide),qAA,Bool.true_and]
   cases hw:decide (s∈qTi) with
   |true=>cases letterB (s.getD 0 0)<;>rfl
   |false=>
    simp only[qBB]
    have key:=qOL (step:=qKT) (fun k=>(s,false,(k:Int),())) (fun k=>(s,false,(k:Int),())) s.length (E:=.exit 0) (B:=.ret) (by simp) (by simp) (fun k=>if k=0 then letterB (s.getD 0 0) else qKj (s.getD k 0)) (fun k hk=>by
     unfold qKT
     simp only
     rw[qIA (by omega),qEA,qBA (by omega),qBA (by omega),qZ0,qEp,qAA,qDat,qZas,qTar,qJaq,qGas,qAat,qHas,w64 (x:=(k:Int)+1) (by omega)]
     by_cases hk0:k=0
     ·subst hk0
      rw[if_pos rfl,qWb]
      generalize alphaB (s.getD 0 0)=a
      generalize (s.getD 0 0==95)=b
      generalize (s.getD 0 0==36)=c
      generalize (s.getD 0 0==33)=d
      cases a<;>cases b<;>cases c<;>cases d<;>rfl
     ·rw[if_neg hk0]
      unfold qKj
      rw[qWb,qDA (show (k:Int)≠0 by omega)]
      generalize alphaB (s.getD k 0)=a
      generalize (s.getD k 0==95)=b
      generalize (s.getD k 0==36)=c
      generalize (s.getD k 0==33)=d
      generalize decide (48<=s.getD k 0)=e
      generalize decide (s.getD k 0<=57)=f
      generalize (s.getD k 0==46)=g
      generalize (s.getD k 0==64)=h
      cases a<;>cases b<;>cases c<;>cases d<;>cases e<;>cases f<;>cases g<;>cases h<;>rfl) (by
     unfold qKT
     simp only
     rw[qNA (by omega)])
    rw[qKv h0] at key
    rcases key with ⟨k1,k2⟩ | ⟨k1,j,k2⟩
    ·rw[show ((0:Nat):Int)=0 from rfl] at k2
     rw[k2]
     simp only[qAA,qDC,qPA,qY1,Bool.and_true]
     rw[k1]
    ·rw[show ((0:Nat):Int)=0 from rfl] at k2
     rw[k2]
     simp only[qAA,qCF,qBF,qPA,qBB,qY1,Bool.and_true]
     rw[k1]
  ·rw[qIA (by omega),qZ9 h1]
   rfl
theorem qFq (s:Int):qId s=some ((decide (1<=s/\s<=4),()),()):=qIg s
theorem qEr {n:Nod} (h:(qSQ n).length<=100000):qDd n=some ((qLC n,()),()):=by
 obtain ⟨o,s,nm,num,kd⟩:=n
 simp only[qSQ] at h
 unfold qDd qLC
 simp only[nOp,qQF,qAO,qSQ]
 rw[qFq,qEaa,qOO (by omega),qSl (by omega),qTU (by omega)]
 simp only[qAA,qTab]
 by_cases e3:o=3
 ·rw[qHA e3,if_pos e3]
  by_cases h2:s=2
  ·subst h2
   cases decide (nm=[])<;>cases isI num<;>rfl
  ·rw[qDA h2,qZ9 h2,Bool.false_and,Bool.false_or]
   by_cases h3:s=3
   ·subst h3;cases decide (nm=[])<;>rfl
   ·rw[qDA h3,qZ9 h3,Bool.false_and];cases decide (nm=[])<;>rfl
 ·rw[qDA e3,if_neg e3]
  by_cases e4:o=4
  ·rw[qHA e4,if_pos (.inl e4)];cases decide (1<=s/\s<=4)<;>cases qTh nm<;>cases decide (num=[])<;>rfl
  ·rw[qDA e4]
   by_cases e5:o=5
   ·rw[qHA e5,if_pos (.inr e5)];cases decide (1<=s/\s<=4)<;>cases qTh nm<;>cases decide (num=[])<;>rfl
   ·rw[qDA e5,if_neg (by omega)]
    by_cases e6:o=16
    ·rw[qHA e6,if_pos (.inl e6)]
     by_cases z:s=0
     ·rw[qHA z,qZ10 z];cases decide (nm=[])<;>cases isI num<;>rfl
     ·rw[qDA z,qZ9 z];rfl
    ·rw[qDA e6]
     by_cases e7:o=17
     ·rw[qHA e7,if_pos (.inr e7)]
      by_cases z:s=0
      ·rw[qHA z,qZ10 z];cases decide (nm=[])<;>cases isI num<;>rfl
      ·rw[qDA z,qZ9 z];rfl
     ·rw[qDA e7,if_neg (by omega)]
      by_cases g1:o>=1
      ·rw[qIA g1]
       by_cases g2:o<=20
       ·rw[qIA g2,qZ10 (show 1<=o/\o<=20 from ⟨g1,g2⟩)]
        by_cases z:s=0
        ·rw[qHA z,qZ10 z];cases decide (nm=[])<;>rfl
        ·rw[qDA z,qZ9 z];rfl
       ·rw[qNA g2,qZ9 (by omega)];rfl
      ·rw[qNA g1,qZ9 (by omega)];rfl
theorem qFy (o k:Int):qPf o k=some ((qHB o k,()),()):=by
 by_cases h1:o=1;· subst h1;rfl
 by_cases h2:o=2;· subst h2;rfl
 by_cases h3:o=3;· subst h3;rfl
 by_cases h4:o=4;· subst h4;rfl
 by_cases h5:o=5
 ·subst h5
  have e:qHB 5 k=decide (1<=k/\k<=40):=rfl
  rw[e]
  unfold qPf
  rw[qDA (by decide),qDA (by decide),qDA (by decide),qDA (by decide),qHA rfl]
  by_cases g:k>=1
  ·rw[qIA g]
   have:decide (k<=40)=decide (1<=k/\k<=40):=by rw[decide_eq_decide];omega
   rw[this]
  ·rw[qNA g,qZ9 (by omega)]
 by_cases h6:o=6;· subst h6;rfl
 by_cases h16:o=16;· subst h16;rfl
 by_cases h17:o=17;· subst h17;rfl
 by_cases h20:o=20;· subst h20;rfl
 by_cases h7:o=7;· subst h7;rfl
 by_cases h8:o=8;· subst h8;rfl
 by_cases h10:o=10;· subst h10;rfl
 by_cases h19:o=19;· subst h19;rfl
 by_cases h14:o=14;· subst h14;rfl
 unfold qPf qHB
 rw[qDA h1,qDA h2,qDA h3,qDA h4,qDA h5,qDA h6,qDA h16,qDA h17,qDA h20,qDA h7,qDA h8,qDA h10,qDA h19,qDA h14,
  if_neg (by omega),if_neg h5,if_neg (by omega),if_neg (by omega),if_neg h14,if_neg (by omega)]
 rfl
theorem qYab {ss:List Int} {s out:Int} (hl:ss.length<=1000000000):qOP ss s out=some ((if ∀ x∈ss,x=s then out else 0,()),()):=by
 have key:=qOL (step:=qWT) (fun k=>(ss,s,out,(0:Int),(k:Int),())) (fun k=>(ss,s,out,(0:Int),(k:Int),())) ss.length (E:=.exit 0) (B:=.ret) (by simp) (by simp) (fun k=>decide (ss.getD k 0=s)) (fun k hk=>by
  unfold qWT
  simp only
  rw[qIA (by omega),qEA,qBA (by omega),qBA (by omega),qZ0,w64 (x:=(k:Int)+1) (by omega)]
  by_cases h:ss.getD k 0=s
  ·rw[qDE h,if_pos (qZ10 h)];rfl
  ·rw[qVE h,if_neg (fun e=>h (of_decide_eq_true e))]) (by
  unfold qWT
  simp only
  rw[qNA (by omega)])
 rw[qIR ss 0 (fun x=>decide (x=s))] at key
 rw[show ((0:Nat):Int)=0 from rfl] at key
 unfold qOP
 rcases key with ⟨k1,k2⟩ | ⟨k1,j,k2⟩
 ·rw[k2]
  simp only[qAA,qDC,qPA]
  rw[if_pos (by simpa [qY3] using k1)]
 ·rw[k2]
  simp only[qAA,qCF,qBF,qPA,qBB]
  rw[if_neg (fun h=>by rw[List.all_eq_true.2 (fun x hx=>qZ10 (h x hx))] at k1;cases k1)]
theorem qRe {n:Nod} {f:Int} {ss:List Int} (ho:1<=nOp n/\nOp n<=20) (hl:ss.length<=1000000000) (hc:qHB (nOp n) ss.length=true) (h15:nOp n=15->f=3->ss.getD 0 0=2\/ss.getD 0 0=3):qIX n f ss=some ((qTC n f ss,()),()):=by
 obtain ⟨o,s,nm,num,kd⟩:=n
 simp only[nOp] at ho hc h15
 have hnum:∀ s,qHT s=some ((decide (s=2\/s=3),()),()):=qTb
 unfold qIX qTC
 simp only[nOp,qQF,qYab hl,hnum,qAA,show (0:Int).toNat=0 from rfl,show (1:Int).toNat=1 from rfl,show (2:Int).toNat=2 from rfl]
 by_cases h1:o=1
 ·subst h1
  rcases ss with _ | ⟨a,l⟩<;>simp[qHB] at hc
  ·simp
  ·omega
 rw[qDA h1]
 by_cases h2:o=2
 ·subst h2
  rcases ss with _ | ⟨a,l⟩<;>simp[qHB] at hc
  ·simp
  ·omega
 rw[qDA h2]
 by_cases h3:o=3;· rw[qHA h3,if_pos (.inl h3)]
 rw[qDA h3]
 by_cases h4:o=4;· rw[qHA h4,if_pos (.inr (.inl h4))]
 rw[qDA h4]
 by_cases h5:o=5;· rw[qHA h5,if_pos (.inr (.inr h5))]
 rw[qDA h5,if_neg (show ¬ (o=3\/o=4\/o=5) by omega)]
 by_cases h6:o=6;· rw[qHA h6,if_pos (show o=1\/o=2\/o=6\/o=7\/o=8\/o=9 by omega)]
 rw[qDA h6]
 by_cases h7:o=7;· rw[qHA h7,if_pos (show o=1\/o=2\/o=6\/o=7\/o=8\/o=9 by omega)]
 rw[qDA h7]
 by_cases h8:o=8;· rw[qHA h8,if_pos (show o=1\/o=2\/o=6\/o=7\/o=8\/o=9 by omega)]
 rw[qDA h8]
 by_cases h9:o=9;· rw[qHA h9,if_pos (show o=1\/o=2\/o=6\/o=7\/o=8\/o=9 by omega)]
 rw[qDA h9,if_neg (show ¬ (o=1\/o=2\/o=6\/o=7\/o=8\/o=9) by omega)]
 by_cases h10:o=10
 ·subst h10
  rcases ss with _ | ⟨a,_ | ⟨b,_ | ⟨c,_ | ⟨d,l⟩⟩⟩⟩<;>simp[qHB] at hc
  ·by_cases q:a=1
   ·by_cases q2:b=c
    ·simp[grd,q,q2]
    ·simp[grd,q,q2,show (b==c)=false by simpa using q2]
   ·simp[grd,q,show (a==1)=false by simpa using q]
  ·omega
 rw[qDA h10,if_neg h10]
 by_cases h11:o=11
 ·subst h11
  rcases ss with _ | ⟨a,_ | ⟨b,_ | ⟨c,l⟩⟩⟩<;>simp[qHB] at hc
  ·by_cases q:b=a
   ·simp[grd,q]
   ·simp[grd,q]
    exact fun e=>q e.symm
  ·omega
 rw[qDA h11,if_neg h11]
 by_cases h12:o=12
 ·subst h12
  rcases ss with _ | ⟨a,_ | ⟨b,_ | ⟨c,l⟩⟩⟩<;>simp[qHB] at hc
  ·by_cases q:a=2\/a=3<;>simp[grd,q]
  ·omega
 rw[qDA h12]
 by_cases h13:o=13
 ·subst h13
  rcases ss with _ | ⟨a,_ | ⟨b,_ | ⟨c,l⟩⟩⟩<;>simp[qHB] at hc
  ·by_cases q:a=2\/a=3<;>simp[grd,q]
  ·omega
 rw[qDA h13,if_neg (show ¬ (o=12\/o=13) by omega)]
 by_cases h14:o=14
 ·subst h14
  rcases ss with _ | ⟨a,l⟩<;>simp[qHB] at hc
  by_cases q:a=2\/a=3<;>simp[grd,q]
 rw[qDA h14,if_neg h14]
 by_cases h15':o=15
 ·subst h15'
  have h15:=h15 rfl
  rcases ss with _ | ⟨a,_ | ⟨b,_ | ⟨c,l⟩⟩⟩<;>simp[qHB] at hc
  ·by_cases q:f=3
   ·have:=h15 q
    simp at this
    simp[grd,q,this]
   ·simp[q,show (f==3)=false by simpa using q]
  ·omega
 rw[qDA h15',if_neg h15']
 by_cases h16:o=16
 ·subst h16
  rcases ss with _ | ⟨a,_ | ⟨b,l⟩⟩<;>simp[qHB] at hc
  ·simp
  ·omega
 rw[qDA h16]
 by_cases h17:o=17
 ·subst h17
  rcases ss with _ | ⟨a,_ | ⟨b,l⟩⟩<;>simp[qHB] at hc
  ·simp
  ·omega
 rw[qDA h17,if_neg (show ¬ (o=16\/o=17) by omega)]
 by_cases h20:o=20
 ·subst h20
  rcases ss with _ | ⟨a,_ | ⟨b,l⟩⟩<;>simp[qHB] at hc
  ·simp
  ·omega
 rw[qDA h20]
 by_cases h18:o=18
 ·subst h18
  rcases ss with _ | ⟨a,_ | ⟨b,_ | ⟨c,l⟩⟩⟩<;>simp[qHB] at hc
  ·by_cases q:a=4
   ·by_cases q2:b=2
    ·simp[grd,q,q2]
    ·simp[grd,q,q2,show (b==2)=false by simpa using q2]
   ·simp[grd,q,show (a==4)=false by simpa using q]
  ·omega
 rw[qDA h18,if_neg h18]
 obtain rfl:o=19:=by omega
 rcases ss with _ | ⟨a,_ | ⟨b,_ | ⟨c,_ | ⟨d,l⟩⟩⟩⟩<;>simp[qHB] at hc
 ·by_cases q:a=4
  ·by_cases q2:b=2
   ·by_cases q3:c=2
    ·simp[grd,q,q2,q3]
    ·simp[grd,q,q2,q3,show (c==2)=false by simpa using q3]
   ·simp[grd,q,q2,show (b==2)=false by simpa using q2]
  ·simp[grd,q,show (a==4)=false by simpa using q]
 ·omega
end Go.AM.Num
end
section
namespace Go.AM.Num
open Tf
theorem qKaf {n:Nod} (h:qLC n=true):1<=nOp n/\nOp n<=20:=by
 unfold qLC at h
 split at h
 ·omega
 ·split at h
  ·omega
  ·split at h
   ·omega
   ·simp only[qY0,decide_eq_true_eq] at h
    exact h.1.1.1
theorem qJq {n:Nod} (h:qLC n=true) (ho:nOp n=3\/nOp n=4\/nOp n=5):1<=qQF n/\qQF n<=4:=by
 unfold qLC at h
 split at h
 ·simp only[qY0,Bool.or_eq_true,decide_eq_true_eq] at h
  rcases h.2 with h | h<;>omega
 ·rw[if_pos (by omega)] at h
  simp only[qY0,decide_eq_true_eq] at h
  exact h.1.1
theorem qKx {ss:List Int} (h:∀ s∈ss,0<=s/\s<=4) (i:Nat):0<=ss.getD i 0/\ss.getD i 0<=4:=by
 rw[qZ4]
 cases hi:ss[i]? with
 |none=>simp
 |some s=>exact h s (qY14 hi)
theorem qDr {n:Nod} {f:Int} {ss:List Int} (hf:qLC n=true) (h:∀ s∈ss,0<=s/\s<=4):0<=qTC n f ss/\qTC n f ss<=4:=by
 have g:=qKx h
 have g0:=g 0
 have g1:=g 1
 unfold qTC
 by_cases c0:nOp n=3\/nOp n=4\/nOp n=5
 ·rw[if_pos c0];have:=qJq hf c0;omega
 rw[if_neg c0]
 by_cases c1:nOp n=1\/nOp n=2\/nOp n=6\/nOp n=7\/nOp n=8\/nOp n=9
 ·rw[if_pos c1];split<;>omega
 rw[if_neg c1]
 by_cases c2:nOp n=10
 ·rw[if_pos c2];split<;>omega
 rw[if_neg c2]
 by_cases c3:nOp n=11
 ·rw[if_pos c3];split<;>omega
 rw[if_neg c3]
 by_cases c4:nOp n=12\/nOp n=13
 ·rw[if_pos c4];split<;>omega
 rw[if_neg c4]
 by_cases c5:nOp n=14
 ·rw[if_pos c5];split<;>omega
 rw[if_neg c5]
 by_cases c6:nOp n=15
 ·rw[if_pos c6];split<;>omega
 rw[if_neg c6]
 by_cases c7:nOp n=16\/nOp n=17
 ·rw[if_pos c7];split<;>omega
 rw[if_neg c7]
 by_cases c8:nOp n=18
 ·rw[if_pos c8];split<;>omega
 rw[if_neg c8]
 by_cases c9:nOp n=19
 ·rw[if_pos c9];split<;>omega
 rw[if_neg c9]
 by_cases c10:nOp n=20
 ·rw[if_pos c10];split<;>omega
 rw[if_neg c10];omega
theorem qNo:∀ (f:Tf),f.wf=true->∀ s∈f.srt,0<=s/\s<=4:=by
 intro f
 induction f with
 |nil=>intro _ s hs;simp[srt] at hs
 |cons n k r ik ir=>
  intro hw s hs
  obtain ⟨w1,w2,w3,w4⟩:=qFJ.1 hw
  simp only[srt,qY12] at hs
  rcases hs with rfl | hs
  ·split
   ·omega
   ·exact qDr (qHW.1 w1).1 (ik w3)
  ·exact ir w4 s hs
noncomputable def qIW (d L:Nat) (l:List Nod):Int×Int:=match one d l with
 |none=>(-1,0)
 |some (T,l')=>((L:Int) - (l'.length:Int),T.srt.getD 0 0)
abbrev TrF:=List Nod->Int->Int->Option ((Int×Int×Unit)×Unit)
def qTaj (t:List Nod) (tr:TrF) (dp:Nat):Prop:=∀ i:Nat,tr t (i:Int) (dp:Int)=some (((qIW (257 - dp) t.length (t.drop i)).1,(qIW (257 - dp) t.length (t.drop i)).2,()),())
theorem qHad {d:Nat} {l l':List Nod} {T:Tf} (h:one d l=some (T,l')):T.size+l'.length=l.length/\T.srt.length=1:=by
 obtain ⟨h1,h2,h3,h4⟩:=qRY d h
 have:=congrArg List.length h1
 rw[qZ6,qXD] at this
 exact ⟨this.symm,by rw[qDM,h3]⟩
theorem qUs {d i:Nat} {t l':List Nod} {T:Tf} (h:one d (t.drop i)=some (T,l')) (hi:i<=t.length):t.drop (i+T.size)=l'/\i+T.size<=t.length/\(t.length:Int) - (l'.length:Int)=((i+T.size:Nat):Int):=by
 obtain ⟨h1,_,_,_⟩:=qRY d h
 have h2:=(qHad h).1
 rw[List.length_drop] at h2
 refine ⟨?_,by omega,by omega⟩
 rw[<-List.drop_drop,h1,List.drop_append_of_le_length (by rw[qXD];omega),qY7 (by rw[qXD];omega),qY15]
theorem qQad {t:List Nod} (ht:t.length<=20000) {tr:TrF} {dp:Nat} (hdp:dp<=256) (htr:qTaj t tr (dp+1)) {i:Nat} (hi:i < t.length) {K:Int} (hK:(t.getD i qSE).2.2.2.2=K) :
 ∀ (c:Nat) (e k:Nat) (s:List Int) (good:Bool),e<=t.length->((k+c:Nat):Int)=K->s.length=k->k+c<=20000->
 match many (one (257 - (dp+1))) c (t.drop e) with
 |none=>∃ y,qOA (qBN tr) (t,(i:Int),(dp:Int),0,0,s,(e:Int),good,(k:Int),())=some (.ret,(t,(i:Int),(dp:Int),-1,0,y))
 |some (F,l')=>qOA (qBN tr) (t,(i:Int),(dp:Int),0,0,s,(e:Int),good,(k:Int),())=some (.exit 0,(t,(i:Int),(dp:Int),0,0,s++F.srt,(t.length:Int) - (l'.length:Int),good&&F.srt.all (fun x=>decide (x > 0)),K,())):=by
 intro c
 induction c with
 |zero=>
  intro e k s good he hk _ _
  simp only[many]
  refine qWA ?_ (by simp)
  unfold qBN
  simp only
  rw[qEA,qBA (by omega),qBA (by omega),qZ0,hK,qNA (by omega)]
  have e1:(t.length:Int) - ((t.drop e).length:Int)=(e:Int):=by rw[List.length_drop];omega
  have e2:K=(k:Int):=by omega
  rw[e1,e2]
  simp[srt]
 |succ c ih=>
  intro e k s good he hk hs hb
  have hcall:=htr e
  simp only[many]
  have hstep0:qBN tr (t,(i:Int),(dp:Int),0,0,s,(e:Int),good,(k:Int),())=(tr t (e:Int) (qI ((dp:Int)+1))).bind fun r1=>
   cond (decide (r1.1.1 < (0:Int))) (some (Ex.ret,(t,(i:Int),(dp:Int),-1,0,s,r1.1.1,good,(k:Int),())))
    (cond good (grd (decide (s.length+([r1.1.2.1]:List Int).length<=qXE)) (some (Ex.normal,(t,(i:Int),(dp:Int),0,0,s++([r1.1.2.1]:List Int),r1.1.1,decide (r1.1.2.1 > (0:Int)),qI ((k:Int)+(1:Int)),()))))
    (grd (decide (s.length+([r1.1.2.1]:List Int).length<=qXE)) (some (Ex.normal,(t,(i:Int),(dp:Int),0,0,s++([r1.1.2.1]:List Int),r1.1.1,false,qI ((k:Int)+(1:Int)),()))))):=by
   unfold qBN
   simp only
   rw[qEA,qBA (by omega),qBA (by omega),qZ0,hK,qIA (by omega)]
  have hwd:qI ((dp:Int)+1)=((dp+1:Nat):Int):=by rw[w64 (by omega)];rfl
  rw[hwd] at hstep0
  cases ho:one (257 - (dp+1)) (t.drop e) with
  |none=>
   have hcall':tr t (e:Int) ((dp+1:Nat):Int)=some ((-1,0,()),()):=by rw[hcall];unfold qIW;rw[ho]
   rw[hcall',qAA] at hstep0
   rw[qIA (show (-1:Int) < 0 by omega)] at hstep0
   simp only[Option.bind_none]
   exact ⟨_,qWA hstep0 (by simp)⟩
  |some x=>
   obtain ⟨T,l1⟩:=x
   obtain ⟨q1,q2⟩:=qHad ho
   obtain ⟨d1,d2,d3⟩:=qUs ho he
   obtain ⟨x,hx⟩:∃ x,T.srt=[x]:=by
    match h:T.srt,q2 with
    |[x],_=>exact ⟨x,rfl⟩
   have hcall':tr t (e:Int) ((dp+1:Nat):Int)=some ((((e+T.size:Nat):Int),x,()),()):=by
    rw[hcall];unfold qIW;rw[ho];simp only;rw[hx,d3];rfl
   rw[hcall',qAA] at hstep0
   rw[qNA (show ¬ ((e+T.size:Nat):Int) < 0 by omega)] at hstep0
   have hlen:s.length+1<=qXE:=by simp only[qXE];omega
   have hgo:qBN tr (t,(i:Int),(dp:Int),0,0,s,(e:Int),good,(k:Int),())=some (.normal,(t,(i:Int),(dp:Int),0,0,s++[x],((e+T.size:Nat):Int),good&&decide (x > 0),((k+1:Nat):Int),())):=by
    rw[hstep0,w64 (x:=(k:Int)+1) (by omega)]
    cases good
    ·simp only[qBB,Bool.false_and];rw[qBA (by simpa using hlen)];rfl
    ·simp only[qPA,Bool.true_and];rw[qBA (by simpa using hlen)];rfl
   have ih':=ih (e+T.size) (k+1) (s++[x]) (good&&decide (x > 0)) d2 (by omega) (by simp[hs]) (by omega)
   simp only[Option.bind_some]
   rw[d1] at ih'
   cases hm:many (one (257 - (dp+1))) c l1 with
   |none=>
    rw[hm] at ih'
    obtain ⟨y,hy⟩:=ih'
    simp only[Option.bind_none]
    exact ⟨y,by rw[qAB hgo,hy]⟩
   |some z=>
    obtain ⟨F,l'⟩:=z
    rw[hm] at ih'
    simp only[Option.bind_some] at ih' ⊢
    rw[qAB hgo,ih',qVa,hx]
    simp[Bool.and_assoc]
theorem qFaj {f:Tf} (hw:f.wf=true):f.srt.all (fun x=>decide (x > 0))=!decide (0∈f.srt):=by
 have h:=qNo f hw
 generalize f.srt=l at h
 induction l with
 |nil=>rfl
 |cons a l ih=>
  have ha:=h a (by simp)
  rw[List.all_cons,ih fun s hs=>h s (by simp[hs])]
  by_cases h0:a=0
  ·subst h0;simp
  ·rw[qZ10 (show a > 0 by omega)]
   have:(0:Int)∈a::l ↔ 0∈l:=by simp;omega
   simp only[this,Bool.true_and]
theorem qVab {t:List Nod} (hs:qTQ t) (ht:t.length<=20000):∀ (f dp:Nat),dp<=257->258<=f+dp->qTaj t (qFY f) dp:=by
 intro f
 induction f with
 |zero=>intro dp h1 h2;omega
 |succ f ih=>
  intro dp h1 h2 i
  have hunf:qFY (f+1) t (i:Int) (dp:Int)=qAd (qFY f) t (i:Int) (dp:Int):=rfl
  rw[hunf]
  unfold qAd
  by_cases hi:i>=t.length
  ·rw[qIA (by omega)]
   unfold qIW
   have e:t.drop i=[]:=qY7 hi
   rw[e]
   cases h:257 - dp<;>rfl
  rw[qNA (by omega)]
  by_cases hd:dp=257
  ·rw[qIA (by omega)]
   unfold qIW
   have e:257 - dp=0:=by omega
   rw[e]
   rfl
  rw[qNA (by omega)]
  have hi':i < t.length:=by omega
  have hget:t.getD i qSE=t[i]:=by simp[qZ4,hi']
  have hdrop:=qY6 hi'
  have hnum:=hs _ (List.getElem_mem hi')
  have hd1:257 - dp=(257 - (dp+1))+1:=by omega
  have hone:one (257 - dp) (t.drop i)=if okN t[i]=true then (many (one (257 - (dp+1))) (qEF t[i]).toNat (t.drop (i+1))).bind fun x=>some (cons t[i] x.1 nil,x.2) else none:=by rw[hd1,hdrop];rfl
  generalize t[i]=n at hget hnum hone
  have hg:∀ (k:Option ((Int×Int×Unit)×Unit)),grd (decide (0<=(i:Int))&&decide ((i:Int) < (t.length:Int))) k=k:=fun k=>by rw[qEA,qBA (by omega),qBA (by omega)]
  rw[hg,qZ0,hget,qEr (by omega),qAA]
  have hno:okN n=false->qIW (257 - dp) t.length (t.drop i)=(-1,0):=fun h=>by
   unfold qIW
   rw[hone,if_neg (by rw[h];decide)]
  by_cases q3:qLC n=false
  ·rw[q3,hno (by unfold okN;rw[q3];rfl)];rfl
  rw[Bool.not_eq_false] at q3
  rw[q3]
  simp only[qY2,qBB]
  rw[hg,hg,qFy,qAA]
  by_cases q4:qHB n.1 n.2.2.2.2=false
  ·rw[q4,hno (by unfold okN;rw[q4,Bool.and_false])];rfl
  rw[Bool.not_eq_false] at q4
  rw[q4]
  simp only[qY2,qBB]
  rw[hg]
  have hok:okN n=true:=qHW.2 ⟨q3,q4⟩
  rw[if_pos hok] at hone
  have hk0:=qWP q4
  have hK:n.2.2.2.2=qEF n:=rfl
  rw[hK] at hk0 ⊢
  have hbound:∀ F l',many (one (257 - (dp+1))) (qEF n).toNat (t.drop (i+1))=some (F,l')->F.len=(qEF n).toNat/\F.wf=true/\t.drop (i+1)=F.flat++l'/\F.size+l'.length=t.length - (i+1):=by
   intro F l' hm
   obtain ⟨m1,m2,m3,m4⟩:=qRi (qRY _) _ hm
   have:=congrArg List.length m1
   rw[qZ6,qXD,List.length_drop] at this
   exact ⟨m3,m2,m1,this.symm⟩
  by_cases q5:qEF n > (t.length:Int)
  ·rw[qIA q5]
   have hm:many (one (257 - (dp+1))) (qEF n).toNat (t.drop (i+1))=none:=by
    cases hm:many (one (257 - (dp+1))) (qEF n).toNat (t.drop (i+1)) with
    |none=>rfl
    |some x=>
     obtain ⟨F,l'⟩:=x
     obtain ⟨b1,b2,b3,b4⟩:=hbound F l' hm
     have:=qBL F
     omega
   unfold qIW
   rw[hone,hm]
   rfl
  rw[qNA q5]
  have hwi:qI ((i:Int)+1)=((i+1:Nat):Int):=by rw[w64 (by omega)];rfl
  have hl:=qQad ht (dp:=dp) (by omega) (ih (dp+1) (by omega) (by omega)) hi' (K:=qEF n) (by rw[hget]) (qEF n).toNat (i+1) 0 [] true (by omega) (by omega) rfl (by omega)
  rw[show ((0:Nat):Int)=0 from rfl] at hl
  rw[hwi]
  cases hm:many (one (257 - (dp+1))) (qEF n).toNat (t.drop (i+1)) with
  |none=>
   rw[hm] at hl hone
   obtain ⟨y,hy⟩:=hl
   rw[hy]
   simp only[qAA,qCF,qBF,qPA,qBB]
   unfold qIW
   rw[hone]
   rfl
  |some x=>
   obtain ⟨F,l'⟩:=x
   obtain ⟨b1,b2,b3,b4⟩:=hbound F l' hm
   rw[hm] at hl hone
   simp only at hl
   rw[hl]
   simp only[qAA,qDC,qPA,qY15,Bool.true_and]
   rw[qFaj b2]
   simp only[Option.bind_some] at hone
   have htree:qIW (257 - dp) t.length (t.drop i)=((t.length:Int) - (l'.length:Int),if 0∈F.srt then 0 else qTC n (op1 F) F.srt):=by
    unfold qIW
    rw[hone]
    rfl
   rw[htree]
   by_cases h0:(0:Int)∈F.srt
   ·rw[qZ10 h0,if_pos h0];rfl
   rw[qZ9 h0,if_neg h0]
   simp only[qY1,qY2,qBB]
   have hop:=qKaf q3
   have hcl:qHB (nOp n) (F.srt.length:Int)=true:=by
    have e:(F.srt.length:Int)=qEF n:=by rw[qDM,b1];omega
    rw[e];exact q4
   have hsl:F.srt.length<=1000000000:=by rw[qDM];have:=qBL F;omega
   cases F with
   |nil=>
    rw[qNA (by simp[srt]),hg,qZ0,hget,qRe (f:=0) hop hsl hcl (fun _ h=>by omega),qAA]
    rfl
   |cons n1 k1 r1=>
    have hb:t.drop (i+1)=n1::(k1.flat++r1.flat++l'):=by rw[b3];simp[flat]
    obtain ⟨g1,g2⟩:=qWL (d:=qSE) hb
    obtain ⟨w1,w2,w3,w4⟩:=qFJ.1 b2
    obtain ⟨s1,s2,s3⟩:=qWM.1 h0
    rw[qIA (by simp[srt]),hwi,qEA,qBA (by omega),qBA (by omega),hg,qZ0,qZ0,hget,g1]
    rw[qRe (f:=n1.1) hop hsl hcl (fun _ h=>by
     have hsrt:(cons n1 k1 r1).srt.getD 0 0=qTC n1 (op1 k1) k1.srt:=by
      simp only[srt,qZ3]
      rw[if_neg s1]
     rw[hsrt]
     have h3:nOp n1=3:=h
     have:qTC n1 (op1 k1) k1.srt=qQF n1:=by unfold qTC;rw[if_pos (.inl h3)]
     rw[this]
     exact (qKaa (qHW.1 w1).1 h3).1),qAA]
    rfl
end Go.AM.Num
end
section
namespace Go.AM.Num
open Tf
theorem qQac:∃ f,big=f/\258<=f:=⟨big,rfl,by decide⟩
theorem qTah {t rest:List Nod} {at':Nat} {n:Nod} {k r:Tf} (hd:t.drop at'=(cons n k r).flat++rest) (hw:(cons n k r).wf=true) (hdep:(cons n k r).dep<=257):one 257 (t.drop at')=some (cons n k nil,r.flat++rest):=by
 obtain ⟨w1,w2,w3,w4⟩:=qFJ.1 hw
 have e:(cons n k r).flat++rest=(cons n k nil).flat++(r.flat++rest):=by simp[flat]
 rw[hd,e]
 exact qKt _ (qFJ.2 ⟨w1,w2,w3,rfl⟩) rfl (by simp only[dep] at hdep ⊢;omega)
theorem qUao {t:List Nod} (hs:qTQ t) (ht:t.length<=20000) {p:Nat} (hp:p < t.length) {K:Int} (hK:(t.getD p qSE).2.2.2.2=K):∀ (r:Tf) (at':Nat) (rest:List Nod) (out:List Int) (idx:Nat),t.drop at'=r.flat++rest->r.wf=true->r.dep<=257->((idx+r.len:Nat):Int)=K->idx+r.len<=20000->out.length=idx->
 ∃ y,qOA qOG (t,(p:Int),out,(at':Int),(idx:Int),())=some (.exit 0,(t,(p:Int),out++r.srt,y)):=by
 intro r
 induction r with
 |nil=>
  intro at' rest out idx _ _ _ hk _ _
  simp only[len,Nat.add_zero] at hk
  refine ⟨_,qWA (y:=(t,(p:Int),out++[],(at':Int),(idx:Int),())) ?_ (by simp)⟩
  unfold qOG
  simp only
  rw[qEA,qBA (by omega),qBA (by omega),qZ0,hK,qNA (by omega),qY4]
 |cons n k r _ ir=>
  intro at' rest out idx hd hw hdep hk hb ho
  obtain ⟨w1,w2,w3,w4⟩:=qFJ.1 hw
  have hone:=qTah hd hw hdep
  obtain ⟨f,hf1,hf2⟩:=qQac
  have htr:=qVab hs ht f 0 (by omega) (by omega) at'
  rw[show ((0:Nat):Int)=0 from rfl] at htr
  have hat:at'<=t.length:=by
   rcases Nat.lt_or_ge t.length at' with h | h
   ·rw[qY7 (by omega)] at hd
    simp[flat] at hd
   ·exact h
  obtain ⟨d1,d2,d3⟩:=qUs hone hat
  have hts:qIW (257 - 0) t.length (t.drop at')=(((at'+(cons n k nil).size:Nat):Int),(cons n k nil).srt.getD 0 0):=by
   unfold qIW
   rw[show 257 - 0=257 from rfl,hone]
   simp only
   rw[d3]
  rw[hts] at htr
  simp only[len] at hk hb
  have hgo:qOG (t,(p:Int),out,(at':Int),(idx:Int),())=some (.normal,(t,(p:Int),out++[(cons n k nil).srt.getD 0 0],((at'+(cons n k nil).size:Nat):Int),((idx+1:Nat):Int),())):=by
   unfold qOG
   simp only
   rw[qEA,qBA (by omega),qBA (by omega),qZ0,hK,qIA (by omega),hf1,htr,qAA,qBA (by simp[qXE];omega),w64 (by omega)]
   rfl
  obtain ⟨y,hy⟩:=ir (at'+(cons n k nil).size) rest (out++[(cons n k nil).srt.getD 0 0]) (idx+1) d1 w4 (by simp only[dep] at hdep;omega) (by omega) (by omega) (by simp[ho])
  refine ⟨y,?_⟩
  rw[qAB hgo,hy]
  simp[srt]
theorem qAam {t:List Nod} (hs:qTQ t) (ht:t.length<=20000) {p:Nat} {n:Nod} {k:Tf} {rest:List Nod} (hd:t.drop p=n::(k.flat++rest)) (hn:qEF n=(k.len:Int)) (hw:k.wf=true) (hdep:k.dep<=257) (hk:k.size<=20000):qBQ t (p:Int)=some ((k.srt,()),()):=by
 obtain ⟨g1,g2⟩:=qWL (d:=qSE) hd
 have hkl:=qBL k
 have hd':t.drop (p+1)=k.flat++rest:=by
  have:=congrArg (List.drop 1) hd
  rw[List.drop_drop] at this
  simpa using this
 unfold qBQ
 obtain ⟨y,hy⟩:=qUao hs ht g2 (K:=(k.len:Int)) (by rw[g1];exact hn) k (p+1) rest [] 0 hd' hw hdep (by omega) (by omega) rfl
 rw[show ((0:Nat):Int)=0 from rfl] at hy
 rw[w64 (by omega)]
 have e:(p:Int)+1=((p+1:Nat):Int):=rfl
 rw[e,hy]
 simp only[qAA,qDC,qPA,qY15]
theorem qDz {a b:List Int} (ha:a.length<=2000000000):qSR a b=some ((decide (a=b),()),()):=by
 unfold qSR
 by_cases hl:a.length=b.length
 ·rw[qDE (by omega)]
  have:=qOL (step:=qKJ) (fun k=>(a,b,false,(k:Int),())) (fun k=>(a,b,false,(k:Int),())) a.length (E:=.exit 0) (B:=.ret) (by simp) (by simp) (fun k=>decide (a.getD k 0=b.getD k 0)) (fun k hk=>by
   unfold qKJ
   simp only
   rw[qIA (by omega),qEA,qBA (by omega),qBA (by omega),qEA,qBA (by omega),qBA (by omega),qZ0,w64 (by omega)]
   by_cases h:a.getD k 0=b.getD k 0
   ·rw[qDE h,if_pos (qZ10 h)];rfl
   ·rw[qVE h,if_neg (fun e=>h (of_decide_eq_true e))]) (by
   unfold qKJ
   simp only
   rw[qNA (by omega)])
  rw[show ((0:Nat):Int)=0 from rfl] at this
  have heq:(List.range a.length).all (fun k=>decide (a.getD k 0=b.getD k 0))=decide (a=b):=by
   rw[Bool.eq_iff_iff,qY3,decide_eq_true_eq]
   constructor
   ·intro h
    refine List.ext_getElem hl fun k h1 h2=>?_
    have:=h k (List.mem_range.2 h1)
    simpa [qZ4,h1,h2] using this
   ·rintro rfl k _;simp
  rcases this with ⟨h1,h2⟩ | ⟨h1,k,h2⟩
  ·rw[h2,<-heq,h1];simp only[qAA,qDC,qPA]
  ·rw[h2,<-heq,h1];simp only[qAA,qCF,qBF,qPA,qBB]
 ·rw[qVE (by omega),qZ9 (fun e=>hl (by rw[e]))]
abbrev Fv:=qBs×List Int×Int
structure UI (us:List Us) (vars:List Vr) (funcs:List Fv):Prop where
 w:∀ a∈us,(a.2.1=false/\a.2.2.1=[])\/a.2.1=true
 c:∀ a∈us,∀ b∈us,a.1=b.1->a.2.1=b.2.1->a=b
 v1:∀ x∈vars,(x.1,false,[],x.2)∈us
 v2:∀ nm s,(nm,false,[],s)∈us->(nm,s)∈vars
 f1:∀ x∈funcs,(x.1,true,x.2.1,x.2.2)∈us
 f2:∀ nm a s,(nm,true,a,s)∈us->(nm,a,s)∈funcs
theorem UI.nil:UI [] [] []:=⟨fun a h=>absurd h qY16,fun a h=>absurd h qY16,fun a h=>absurd h qY16,fun _ _ h=>absurd h qY16,fun a h=>absurd h qY16,fun _ _ _ h=>absurd h qY16⟩
theorem UI.again {us:List Us} {vars:List Vr} {funcs:List Fv} (h:UI us vars funcs) {u:Us} (hu:u∈us):UI (us++[u]) vars funcs:=by
 have hm:∀ a,a∈us++[u] ↔ a∈us:=fun a=>by
  rw[qZ7,qZ8]
  exact ⟨fun h=>h.elim id fun e=>e ▸ hu,.inl⟩
 exact ⟨fun a ha=>h.w a ((hm a).1 ha),fun a ha b hb=>h.c a ((hm a).1 ha) b ((hm b).1 hb),fun x hx=>(hm _).2 (h.v1 x hx),fun nm s hx=>h.v2 nm s ((hm _).1 hx),fun x hx=>(hm _).2 (h.f1 x hx),fun nm a s hx=>h.f2 nm a s ((hm _).1 hx)⟩
theorem UI.snoc_c {us:List Us} {vars:List Vr} {funcs:List Fv} (h:UI us vars funcs) {u:Us} (hu:∀ a∈us,a.1=u.1->a.2.1=u.2.1->a=u):∀ a∈us++[u],∀ b∈us++[u],a.1=b.1->a.2.1=b.2.1->a=b:=by
 intro a ha b hb e1 e2
 rcases List.mem_append.1 ha with ha1 | ha1
 ·rcases List.mem_append.1 hb with hb1 | hb1
  ·exact h.c a ha1 b hb1 e1 e2
  ·rw[qZ8] at hb1
   rw[hb1] at e1 e2 ⊢
   exact hu a ha1 e1 e2
 ·rw[qZ8] at ha1
  rw[ha1] at e1 e2 ⊢
  rcases List.mem_append.1 hb with hb1 | hb1
  ·exact (hu b hb1 e1.symm e2.symm).symm
  ·rw[qZ8] at hb1;exact hb1.symm
theorem UI.addV {us:List Us} {vars:List Vr} {funcs:List Fv} (h:UI us vars funcs) {nm:qBs} {s:Int} (hn:∀ x∈vars,x.1≠nm):UI (us++[(nm,false,[],s)]) (vars++[(nm,s)]) funcs:=by
 refine ⟨fun a ha=>?_,h.snoc_c fun a ha e1 e2=>?_,fun x hx=>?_,fun m x hx=>?_,fun x hx=>List.mem_append_left _ (h.f1 x hx),fun m a x hx=>?_⟩
 ·rcases List.mem_append.1 ha with ha | ha
  ·exact h.w a ha
  ·rw[qZ8] at ha;subst ha;exact .inl ⟨rfl,rfl⟩
 ·exfalso
  obtain ⟨m,b,l,z⟩:=a
  simp only at e1 e2
  subst e1;subst e2
  rcases h.w _ ha with ⟨_,q⟩ | q
  ·simp only at q;subst q
   exact hn _ (h.v2 _ _ ha) rfl
  ·cases q
 ·rcases List.mem_append.1 hx with hx | hx
  ·exact List.mem_append_left _ (h.v1 x hx)
  ·rw[qZ8] at hx;subst hx;simp
 ·rcases List.mem_append.1 hx with hx | hx
  ·exact List.mem_append_left _ (h.v2 m x hx)
  ·rw[qZ8] at hx;cases hx;simp
 ·rcases List.mem_append.1 hx with hx | hx
  ·exact h.f2 m a x hx
  ·rw[qZ8] at hx;cases hx
theorem UI.addF {us:List Us} {vars:List Vr} {funcs:List Fv} (h:UI us vars funcs) {nm:qBs} {l:List Int} {s:Int} (hn:∀ x∈funcs,x.1≠nm):UI (us++[(nm,true,l,s)]) vars (funcs++[(nm,l,s)]):=by
 refine ⟨fun a ha=>?_,h.snoc_c fun a ha e1 e2=>?_,fun x hx=>List.mem_append_left _ (h.v1 x hx),fun m x hx=>?_,fun x hx=>?_,fun m a x hx=>?_⟩
 ·rcases List.mem_append.1 ha with ha | ha
  ·exact h.w a ha
  ·rw[qZ8] at ha;subst ha;exact .inr rfl
 ·exfalso
  obtain ⟨m,b,l',z⟩:=a
  simp only at e1 e2
  subst e1;subst e2
  exact hn _ (h.f2 _ _ _ ha) rfl
 ·rcases List.mem_append.1 hx with hx | hx
  ·exact h.v2 m x hx
  ·rw[qZ8] at hx;cases hx
 ·rcases List.mem_append.1 hx with hx | hx
  ·exact List.mem_append_left _ (h.f1 x hx)
  ·rw[qZ8] at hx;subst hx;simp
 ·rcases List.mem_append.1 hx with hx | hx
  ·exact List.mem_append_left _ (h.f2 m a x hx)
  ·rw[qZ8] at hx;cases hx;simp
theorem qHae {t:List Nod} {vars:List Vr} {funcs:List Fv} {i:Nat} {n:Nod} (hi:i < t.length) (hn:t.getD i qSE=n) (hl:vars.length<=20000):∀ (m q:Nat) (known:Bool),q+m=vars.length->
 ((∃ x∈vars.drop q,x.1=n.2.2.1/\x.2≠n.2.1)/\∃ y,qOA qGH (t,false,vars,funcs,(i:Int),known,(q:Int),())=some (.ret,(t,false,vars,funcs,(i:Int),y)))\/
 ((∀ x∈vars.drop q,x.1=n.2.2.1->x.2=n.2.1)/\qOA qGH (t,false,vars,funcs,(i:Int),known,(q:Int),())=some (.exit 3,(t,false,vars,funcs,(i:Int),known||(vars.drop q).any (fun x=>decide (x.1=n.2.2.1)),(vars.length:Int),()))):=by
 intro m
 induction m with
 |zero=>
  intro q known hq
  have e:vars.drop q=[]:=qY7 (by omega)
  rw[e]
  refine .inr ⟨fun x hx=>absurd hx qY16,qWA ?_ (by simp)⟩
  unfold qGH
  simp only
  rw[qNA (by omega)]
  have:q=vars.length:=by omega
  rw[this]
  simp
 |succ m ih=>
  intro q known hq
  have hql:q < vars.length:=by omega
  have hd:=qY6 hql
  have hg:vars.getD q zVr=vars[q]:=by simp[qZ4,hql]
  rw[hd]
  generalize vars[q]=x at hg hd
  have hstep:qGH (t,false,vars,funcs,(i:Int),known,(q:Int),())=if x.1=n.2.2.1 then (if x.2=n.2.1 then some (.normal,(t,false,vars,funcs,(i:Int),true,((q+1:Nat):Int),())) else some (.ret,(t,false,vars,funcs,(i:Int),true,(q:Int),()))) else some (.normal,(t,false,vars,funcs,(i:Int),known,((q+1:Nat):Int),())):=by
   unfold qGH
   simp only
   rw[qIA (by omega),qEA,qBA (by omega),qBA (by omega),qZ0,qZ0,qBA hql,qEA,qBA (by omega),qBA (by omega),hg,hn,w64 (by omega)]
   by_cases h1:x.1=n.2.2.1
   ·rw[show (x.1==n.2.2.1)=true by simpa using h1,if_pos h1,qPA,qEA,qBA (by omega),qBA (by omega),qBA hql,qEA,qBA (by omega),qBA (by omega)]
    by_cases h2:x.2=n.2.1
    ·rw[qDE h2,if_pos h2];rfl
    ·rw[qVE h2,if_neg h2]
   ·rw[show (x.1==n.2.2.1)=false by simpa using h1,if_neg h1,qBB];rfl
  by_cases h1:x.1=n.2.2.1
  ·rw[if_pos h1] at hstep
   by_cases h2:x.2=n.2.1
   ·rw[if_pos h2] at hstep
    rcases ih (q+1) true (by omega) with ⟨⟨z,z1,z2⟩,y,hy⟩ | ⟨hz,hy⟩
    ·exact .inl ⟨⟨z,qY13 _ z1,z2⟩,y,by rw[qAB hstep,hy]⟩
    ·refine .inr ⟨fun z hz' e=>?_,?_⟩
     ·rcases List.mem_cons.1 hz' with rfl | hz'
      ·exact h2
      ·exact hz z hz' e
     ·rw[qAB hstep,hy,List.any_cons,qZ10 h1];simp
   ·rw[if_neg h2] at hstep
    exact .inl ⟨⟨x,by simp,h1,h2⟩,_,qWA hstep (by simp)⟩
  ·rw[if_neg h1] at hstep
   rcases ih (q+1) known (by omega) with ⟨⟨z,z1,z2⟩,y,hy⟩ | ⟨hz,hy⟩
   ·exact .inl ⟨⟨z,qY13 _ z1,z2⟩,y,by rw[qAB hstep,hy]⟩
   ·refine .inr ⟨fun z hz' e=>?_,?_⟩
    ·rcases List.mem_cons.1 hz' with rfl | hz'
     ·exact absurd e h1
     ·exact hz z hz' e
    ·rw[qAB hstep,hy,List.any_cons,qZ9 h1,Bool.false_or]
theorem qBy {t:List Nod} {vars:List Vr} {funcs:List Fv} {i:Nat} {g:Fv} (hl:funcs.length<=20000) (hfl:∀ x∈funcs,x.2.1.length<=20000):∀ (m q:Nat) (known:Bool),q+m=funcs.length->
 ((∃ x∈funcs.drop q,x.1=g.1/\x≠g)/\∃ y,qOA qIH (t,false,vars,funcs,(i:Int),g,known,(q:Int),())=some (.ret,(t,false,vars,funcs,(i:Int),y)))\/
 ((∀ x∈funcs.drop q,x.1=g.1->x=g)/\qOA qIH (t,false,vars,funcs,(i:Int),g,known,(q:Int),())=some (.exit 5,(t,false,vars,funcs,(i:Int),g,known||(funcs.drop q).any (fun x=>decide (x.1=g.1)),(funcs.length:Int),()))):=by
 intro m
 induction m with
 |zero=>
  intro q known hq
  have e:funcs.drop q=[]:=qY7 (by omega)
  rw[e]
  refine .inr ⟨fun x hx=>absurd hx qY16,qWA ?_ (by simp)⟩
  unfold qIH
  simp only
  rw[qNA (by omega)]
  have:q=funcs.length:=by omega
  rw[this]
  simp
 |succ m ih=>
  intro q known hq
  have hql:q < funcs.length:=by omega
  have hd:=qY6 hql
  have hg:funcs.getD q (([]:qBs),([]:List Int),(0:Int))=funcs[q]:=by simp[qZ4,hql]
  have hxl:=hfl _ (List.getElem_mem hql)
  rw[hd]
  generalize funcs[q]=x at hg hd hxl
  obtain ⟨xn,xa,xr⟩:=x
  obtain ⟨gn,ga,gr⟩:=g
  simp only at hxl
  have hstep:qIH (t,false,vars,funcs,(i:Int),(gn,ga,gr),known,(q:Int),())=if xn=gn then (if (xn,xa,xr)=(gn,ga,gr) then some (.normal,(t,false,vars,funcs,(i:Int),(gn,ga,gr),true,((q+1:Nat):Int),())) else some (.ret,(t,false,vars,funcs,(i:Int),(gn,ga,gr),true,(q:Int),()))) else some (.normal,(t,false,vars,funcs,(i:Int),(gn,ga,gr),known,((q+1:Nat):Int),())):=by
   unfold qIH
   simp only
   rw[qIA (by omega),qEA,qBA (by omega),qBA (by omega),qZ0,qBA hql,hg,w64 (by omega)]
   by_cases h1:xn=gn
   ·rw[show (xn==gn)=true by simpa using h1,if_pos h1,qPA,qEA,qBA (by omega),qBA (by omega),qBA hql]
    by_cases h2:xr=gr
    ·rw[qDE h2,qEA,qBA (by omega),qBA (by omega),qBA hql,qDz (show xa.length<=2000000000 by omega),qAA]
     by_cases h3:xa=ga
     ·rw[qZ10 h3,if_pos (by rw[h1,h2,h3])];rfl
     ·rw[qZ9 h3,if_neg (fun e=>h3 (by cases e;rfl))];rfl
    ·rw[qVE h2,if_neg (fun e=>h2 (by cases e;rfl))]
   ·rw[show (xn==gn)=false by simpa using h1,if_neg h1,qBB];rfl
  by_cases h1:xn=gn
  ·rw[if_pos h1] at hstep
   by_cases h2:(xn,xa,xr)=(gn,ga,gr)
   ·rw[if_pos h2] at hstep
    rcases ih (q+1) true (by omega) with ⟨⟨z,z1,z2⟩,y,hy⟩ | ⟨hz,hy⟩
    ·exact .inl ⟨⟨z,qY13 _ z1,z2⟩,y,by rw[qAB hstep,hy]⟩
    ·refine .inr ⟨fun z hz' e=>?_,?_⟩
     ·rcases List.mem_cons.1 hz' with rfl | hz'
      ·exact h2
      ·exact hz z hz' e
     ·rw[qAB hstep,hy,List.any_cons,qZ10 h1];simp
   ·rw[if_neg h2] at hstep
    exact .inl ⟨⟨_,by simp,h1,h2⟩,_,qWA hstep (by simp)⟩
  ·rw[if_neg h1] at hstep
   rcases ih (q+1) known (by omega) with ⟨⟨z,z1,z2⟩,y,hy⟩ | ⟨hz,hy⟩
   ·exact .inl ⟨⟨z,qY13 _ z1,z2⟩,y,by rw[qAB hstep,hy]⟩
   ·refine .inr ⟨fun z hz' e=>?_,?_⟩
    ·rcases List.mem_cons.1 hz' with rfl | hz'
     ·exact absurd e h1
     ·exact hz z hz' e
    ·rw[qAB hstep,hy,List.any_cons,qZ9 h1,Bool.false_or]
end Go.AM.Num
end
section
namespace Go.AM.Num
open Tf
theorem qTaf {F:Tf} {t:List Nod} (hs:qTQ t) (hF:F.flat=t) (hw:F.wf=true) (h0:(0:Int)∉F.srt) (hz:F.size<=20000) (hdep:F.dep<=257) {p:Nat} (hp:p < F.size) {vars:List Vr} {funcs:List Fv}
 (hI:UI (qCU F p) vars funcs) (hl:vars.length<=p) (hm:funcs.length<=p) :
 (¬ Cns (qCU F (p+1))/\∃ x,qXG (t,false,vars,funcs,(p:Int),())=some (.ret,(t,false,x)))\/
 ∃ vars' funcs',UI (qCU F (p+1)) vars' funcs'/\vars'.length<=p+1/\funcs'.length<=p+1/\qXG (t,false,vars,funcs,(p:Int),())=some (.normal,(t,false,vars',funcs',((p+1:Nat):Int),())):=by
 obtain ⟨n,k,x,rest,rest2,h1,h2,h3⟩:=qPak F 0 p hp
 obtain ⟨g1,g2⟩:=qWL (d:=qSE) h2
 have hmem:(n,k)∈F.subs:=qY14 h1
 obtain ⟨w1,w2,w3,w4⟩:=qSak hw h0 hmem
 have hks:=qRd hmem
 have htl:t.length=F.size:=by rw[<-hF,qXD]
 rw[hF] at g1 h2
 have hwp:qI ((p:Int)+1)=((p+1:Nat):Int):=by rw[w64 (by omega)];rfl
 have hT:=qFi h1
 have hkd:k.dep<=257:=by
  have:∀ (f:Tf),(n,k)∈f.subs->k.dep<=f.dep:=by
   intro f
   induction f with
   |nil=>intro h;simp[subs] at h
   |cons a b c ib ic=>
    intro h
    simp only[subs,qY12,qZ7,Prod.mk.injEq] at h
    simp only[dep]
    rcases h with ⟨rfl,rfl⟩ | h | h
    ·omega
    ·have:=ib h;omega
    ·have:=ic h;omega
  have:=this F hmem
  omega
 unfold qXG
 simp only
 rw[qIA (by omega),qEA,qBA (by omega),qBA (by omega),qZ0,g1]
 by_cases e4:n.1=4
 ·have hu:qGS (n,k)=some (n.2.2.1,false,[],n.2.1):=by unfold qGS;rw[if_pos e4]
  rw[hu] at hT
  rw[qHA e4]
  rcases qHae (funcs:=funcs) (t:=t) (i:=p) (n:=n) (by omega) g1 (show vars.length<=20000 by omega) vars.length 0 false (by omega) with ⟨⟨y,y1,y2,y3⟩,z,hz'⟩ | ⟨hy,hz'⟩
  ·rw[show ((0:Nat):Int)=0 from rfl] at hz'
   rw[hz']
   simp only[qAA,qCF,qBF,qPA,qBB]
   refine .inl ⟨fun hc=>y3 ?_,_,rfl⟩
   rw[hT] at hc
   have hy1:=hI.v1 y (by simpa using y1)
   have:=hc _ (List.mem_append_left _ hy1) (n.2.2.1,false,[],n.2.1) (by simp) y2
   simp only[Prod.mk.injEq] at this
   exact this.2.2.2
  ·rw[show ((0:Nat):Int)=0 from rfl] at hz'
   rw[hz']
   simp only[qAA,qDC,qPA,Bool.false_or,List.drop_zero]
   by_cases hk:(vars.any fun x=>decide (x.1=n.2.2.1))=true
   ·rw[hk]
    simp only[qY2,qBB,hwp]
    obtain ⟨y,y1,y2⟩:=List.any_eq_true.1 hk
    have y2':y.1=n.2.2.1:=of_decide_eq_true y2
    have hy1:=hI.v1 y y1
    have e2:=hy y (by simpa using y1) y2'
    rw[y2',e2] at hy1
    exact .inr ⟨_,_,by rw[hT];exact hI.again hy1,by omega,by omega,rfl⟩
   ·rw[Bool.not_eq_true] at hk
    rw[hk]
    simp only[qY1,qPA]
    rw[qEA,qBA (by omega),qBA (by omega),qEA,qBA (by omega),qBA (by omega),qBA (by simp[qXE];omega),qZ0,g1,hwp]
    have hx:∀ y∈vars,y.1≠n.2.2.1:=fun y hy1 e=>List.any_eq_false.1 hk y hy1 (qZ10 e)
    exact .inr ⟨_,_,by rw[hT];exact hI.addV hx,by simp;omega,by omega,rfl⟩
 ·rw[qDA e4]
  by_cases e5:n.1=5
  ·have hu:qGS (n,k)=some (n.2.2.1,true,k.srt,n.2.1):=by unfold qGS;rw[if_neg e4,if_pos e5]
   rw[hu] at hT
   rw[qHA e5]
   have hfa:qUc t (p:Int)=some (((n.2.2.1,k.srt,n.2.1),()),()):=by
    unfold qUc
    rw[qEA,qBA (by omega),qBA (by omega),qAam hs (by omega) h2 w2 w3 hkd (by omega),qAA,qEA,qBA (by omega),qBA (by omega),qZ0,g1]
   rw[hfa,qAA]
   have hfl:∀ x∈funcs,x.2.1.length<=20000:=by
    intro y hy
    have hb2:=hI.f1 y hy
    obtain ⟨⟨n',k'⟩,m1,m2⟩:=List.mem_filterMap.1 (qSZ _ hb2)
    unfold qGS at m2
    split at m2
    ·simp at m2
    ·split at m2
     ·simp only[Option.some.injEq,Prod.mk.injEq] at m2
      rw[<-m2.2.2.1,qDM]
      have:=qRd m1;have:=qBL k';omega
     ·cases m2
   rcases qBy (t:=t) (vars:=vars) (i:=p) (g:=(n.2.2.1,k.srt,n.2.1)) (show funcs.length<=20000 by omega) hfl funcs.length 0 false (by omega) with ⟨⟨y,y1,y2,y3⟩,z,hz'⟩ | ⟨hy,hz'⟩
   ·rw[show ((0:Nat):Int)=0 from rfl] at hz'
    simp only
    rw[hz']
    simp only[qAA,qCF,qBF,qPA,qBB]
    refine .inl ⟨fun hc=>y3 ?_,_,rfl⟩
    rw[hT] at hc
    have hy1:=hI.f1 y (by simpa using y1)
    have:=hc _ (List.mem_append_left _ hy1) (n.2.2.1,true,k.srt,n.2.1) (by simp) y2
    obtain ⟨ya,yb,yc⟩:=y
    simp only[Prod.mk.injEq,true_and] at this ⊢
    exact this
   ·rw[show ((0:Nat):Int)=0 from rfl] at hz'
    simp only
    rw[hz']
    simp only[qAA,qDC,qPA,Bool.false_or,List.drop_zero]
    by_cases hk:(funcs.any fun x=>decide (x.1=n.2.2.1))=true
    ·rw[hk]
     simp only[qY2,qBB,hwp]
     obtain ⟨y,y1,y2⟩:=List.any_eq_true.1 hk
     have y2':y.1=n.2.2.1:=of_decide_eq_true y2
     have hy1:=hI.f1 y y1
     have e2:=hy y (by simpa using y1) y2'
     rw[e2] at hy1
     exact .inr ⟨_,_,by rw[hT];exact hI.again hy1,by omega,by omega,rfl⟩
    ·rw[Bool.not_eq_true] at hk
     rw[hk]
     simp only[qY1,qPA]
     rw[qBA (by simp[qXE];omega),hwp]
     have hx:∀ y∈funcs,y.1≠n.2.2.1:=fun y hy1 e=>List.any_eq_false.1 hk y hy1 (qZ10 e)
     exact .inr ⟨_,_,by rw[hT];exact hI.addF hx,by omega,by simp;omega,rfl⟩
  ·have hu:qGS (n,k)=none:=by unfold qGS;rw[if_neg e4,if_neg e5]
   rw[hu] at hT
   rw[qDA e5,hwp]
   exact .inr ⟨_,_,by rw[hT];simpa using hI,by omega,by omega,rfl⟩
theorem qHah {F:Tf} {t:List Nod} (hs:qTQ t) (hF:F.flat=t) (hw:F.wf=true) (h0:(0:Int)∉F.srt) (hz:F.size<=20000) (hdep:F.dep<=257):∀ (m p:Nat) (vars:List Vr) (funcs:List Fv),p+m=F.size->
 UI (qCU F p) vars funcs->vars.length<=p->funcs.length<=p->
 (¬ Cns (qSq F)/\∃ x,qOA qXG (t,false,vars,funcs,(p:Int),())=some (.ret,(t,false,x)))\/
 ∃ vars' funcs' y,UI (qSq F) vars' funcs'/\vars'.length<=20000/\funcs'.length<=20000/\qOA qXG (t,false,vars,funcs,(p:Int),())=some (.exit 0,(t,false,vars',funcs',y)):=by
 have htl:t.length=F.size:=by rw[<-hF,qXD]
 intro m
 induction m with
 |zero=>
  intro p vars funcs hp hI hl hm
  have e:qCU F p=qSq F:=by unfold qCU qSq;rw[List.take_of_length_le (by rw[qOZ];omega)]
  rw[e] at hI
  exact .inr ⟨vars,funcs,_,hI,by omega,by omega,qWA (by unfold qXG;simp only;rw[qNA (by omega)]) (by simp)⟩
 |succ m ih=>
  intro p vars funcs hp hI hl hm
  rcases qTaf hs hF hw h0 hz hdep (p:=p) (by omega) hI hl hm with ⟨h1,x,h2⟩ | ⟨vars',funcs',h1,h2,h3,h4⟩
  ·exact .inl ⟨fun hc=>h1 (hc.mono qSZ),x,qWA h2 (by simp)⟩
  ·rw[qAB h4]
   exact ih (p+1) vars' funcs' (by omega) h1 h2 h3
theorem qIah {vars:List Vr} {funcs:List Fv} (hl:funcs.length<=20000) {i:Nat} (hi:i < vars.length):∀ (m q:Nat),q+m=funcs.length->
 ((∃ g∈funcs.drop q,(vars.getD i zVr).1=g.1)/\∃ y,qOA qCH (false,vars,funcs,(i:Int),(q:Int),())=some (.ret,(false,vars,funcs,(i:Int),y)))\/
 ((∀ g∈funcs.drop q,(vars.getD i zVr).1≠g.1)/\∃ y,qOA qCH (false,vars,funcs,(i:Int),(q:Int),())=some (.exit 9,(false,vars,funcs,(i:Int),y))):=by
 intro m
 induction m with
 |zero=>
  intro q hq
  have e:funcs.drop q=[]:=qY7 (by omega)
  rw[e]
  exact .inr ⟨fun x hx=>absurd hx qY16,_,qWA (by unfold qCH;simp only;rw[qNA (by omega)]) (by simp)⟩
 |succ m ih=>
  intro q hq
  have hql:q < funcs.length:=by omega
  have hd:=qY6 hql
  have hg:funcs.getD q (([]:qBs),([]:List Int),(0:Int))=funcs[q]:=by simp[qZ4,hql]
  rw[hd]
  generalize funcs[q]=x at hg hd
  have hstep:qCH (false,vars,funcs,(i:Int),(q:Int),())=if (vars.getD i zVr).1=x.1 then some (.ret,(false,vars,funcs,(i:Int),(q:Int),())) else some (.normal,(false,vars,funcs,(i:Int),((q+1:Nat):Int),())):=by
   unfold qCH
   simp only
   rw[qIA (by omega),qEA,qBA (by omega),qBA (by omega),qZ0,qZ0,qBA hi,qEA,qBA (by omega),qBA (by omega),qBA hql,hg,w64 (by omega)]
   by_cases h1:(vars.getD i zVr).1=x.1
   ·rw[show ((vars.getD i zVr).1==x.1)=true from beq_iff_eq.2 h1,if_pos h1,qPA]
   ·rw[show ((vars.getD i zVr).1==x.1)=false from beq_eq_false_iff_ne.2 h1,if_neg h1,qBB];rfl
  by_cases h1:(vars.getD i zVr).1=x.1
  ·rw[if_pos h1] at hstep
   exact .inl ⟨⟨x,by simp,h1⟩,_,qWA hstep (by simp)⟩
  ·rw[if_neg h1] at hstep
   rcases ih (q+1) (by omega) with ⟨⟨z,z1,z2⟩,y,hy⟩ | ⟨hz,y,hy⟩
   ·exact .inl ⟨⟨z,qY13 _ z1,z2⟩,y,by rw[qAB hstep,hy]⟩
   ·refine .inr ⟨fun z hz'=>?_,y,by rw[qAB hstep,hy]⟩
    rcases List.mem_cons.1 hz' with rfl | hz'
    ·exact h1
    ·exact hz z hz'
theorem qPaa {vars:List Vr} {funcs:List Fv} (hv:vars.length<=20000) (hl:funcs.length<=20000):∀ (m i:Nat),i+m=vars.length->
 ((∃ v∈vars.drop i,∃ g∈funcs,v.1=g.1)/\∃ y,qOA qCG (false,vars,funcs,(i:Int),())=some (.ret,(false,y)))\/
 ((∀ v∈vars.drop i,∀ g∈funcs,v.1≠g.1)/\∃ y,qOA qCG (false,vars,funcs,(i:Int),())=some (.exit 7,y)):=by
 intro m
 induction m with
 |zero=>
  intro i hi
  have e:vars.drop i=[]:=qY7 (by omega)
  rw[e]
  exact .inr ⟨fun x hx=>absurd hx qY16,_,qWA (by unfold qCG;simp only;rw[qNA (by omega)]) (by simp)⟩
 |succ m ih=>
  intro i hi
  have hil:i < vars.length:=by omega
  have hd:=qY6 hil
  have hg:vars.getD i zVr=vars[i]:=by simp[qZ4,hil]
  have hin:=qIah (vars:=vars) hl hil funcs.length 0 (by omega)
  rw[hg] at hin
  rw[hd]
  generalize vars[i]=x at hg hd hin
  rw[List.drop_zero,show ((0:Nat):Int)=0 from rfl] at hin
  rcases hin with ⟨⟨g,g1,g2⟩,y,hy⟩ | ⟨hn,y,hy⟩
  ·refine .inl ⟨⟨x,by simp,g,g1,g2⟩,_,qWA (y:=(false,vars,funcs,(i:Int),())) ?_ (by simp)⟩
   unfold qCG
   simp only
   rw[qIA (by omega),hy]
   simp only[qAA,qCF,qBF,qPA,qBB]
  ·have hgo:qCG (false,vars,funcs,(i:Int),())=some (.normal,(false,vars,funcs,((i+1:Nat):Int),())):=by
    unfold qCG
    simp only
    rw[qIA (by omega),hy]
    simp only[qAA,qDC,qPA]
    rw[w64 (by omega)]
    rfl
   rcases ih (i+1) (by omega) with ⟨⟨v,v1,v2⟩,y,hy⟩ | ⟨hz,y,hy⟩
   ·exact .inl ⟨⟨v,qY13 _ v1,v2⟩,y,by rw[qAB hgo,hy]⟩
   ·refine .inr ⟨fun z hz'=>?_,y,by rw[qAB hgo,hy]⟩
    rcases List.mem_cons.1 hz' with rfl | hz'
    ·exact hn
    ·exact hz z hz'
theorem qKn {F:Tf} {t:List Nod} (hs:qTQ t) (hF:F.flat=t) (hw:F.wf=true) (h0:(0:Int)∉F.srt) (hz:F.size<=20000) (hdep:F.dep<=257):∃ b,qIY t=some ((b,()),())/\(b=true ↔ Cns (qSq F)):=by
 unfold qIY
 rcases qHah hs hF hw h0 hz hdep F.size 0 [] [] (by omega) UI.nil (by simp) (by simp) with ⟨h1,x,h2⟩ | ⟨vars,funcs,y,h1,h2,h3,h4⟩
 ·rw[show ((0:Nat):Int)=0 from rfl] at h2
  rw[h2]
  simp only[qAA,qCF,qBF,qPA,qBB]
  exact ⟨false,rfl,fun h=>(by cases h),fun h=>absurd h h1⟩
 ·rw[show ((0:Nat):Int)=0 from rfl] at h4
  rw[h4]
  simp only[qAA,qDC,qPA]
  rcases qPaa h2 h3 vars.length 0 (by omega) with ⟨⟨v,v1,g,g1,e⟩,y,hy⟩ | ⟨hn,y,hy⟩
  ·rw[show ((0:Nat):Int)=0 from rfl] at hy
   rw[hy]
   simp only[qAA,qCF,qBF,qPA,qBB]
   refine ⟨false,rfl,fun h=>(by cases h),fun hc=>?_⟩
   have:=hc _ (h1.v1 v (by simpa using v1)) _ (h1.f1 g g1) e
   simp at this
  ·rw[show ((0:Nat):Int)=0 from rfl] at hy
   rw[hy]
   simp only[qAA,qDC,qPA]
   refine ⟨true,rfl,fun _=>?_,fun _=>rfl⟩
   intro a ha b hb e
   obtain ⟨an,ab,al,azs'⟩:=a
   obtain ⟨bn,bb,bl,bs⟩:=b
   simp only at e
   subst e
   rcases h1.w _ ha with ⟨p1,p2⟩ | p1<;>rcases h1.w _ hb with ⟨q1,q2⟩ | q1<;>simp only at p1 q1
   ·exact h1.c _ ha _ hb rfl (by simp only;rw[p1,q1])
   ·simp only at p2
    subst p1;subst p2;subst q1
    exact absurd rfl (hn _ (by simpa using h1.v2 _ _ ha) _ (h1.f2 _ _ _ hb))
   ·simp only at q2
    subst p1;subst q2;subst q1
    exact absurd rfl (hn _ (by simpa using h1.v2 _ _ hb) _ (h1.f2 _ _ _ ha))
   ·exact h1.c _ ha _ hb rfl (by simp only;rw[p1,q1])
theorem qUo {t:List Nod} (hs:qTQ t):(∃ F,VT t F/\qQY t=some ((F.srt.getD 0 0,()),())/\1<=F.srt.getD 0 0)\/((¬ ∃ F,VT t F)/\qQY t=some ((0,()),())):=by
 unfold qQY
 by_cases hl:t.length > 20000
 ·rw[qIA (by omega)]
  refine .inr ⟨fun ⟨F,hF⟩=>?_,rfl⟩
  have:=hF.size
  have h2:=qXD F
  rw[hF.flat] at h2
  omega
 rw[qNA (by omega)]
 obtain ⟨f,hf1,hf2⟩:=qQac
 have htr:=qVab hs (by omega) f 0 (by omega) (by omega) 0
 rw[show ((0:Nat):Int)=0 from rfl,List.drop_zero] at htr
 rw[hf1,htr,qAA]
 have hiff:∀ F,VT t F->one 257 t=some (F,[]):=by
  intro F hF
  have:=qKt (f:=F) (d:=257) [] hF.wf hF.len hF.dep
  rw[qY4,hF.flat] at this
  exact this
 unfold qIW
 rw[show 257 - 0=257 from rfl]
 cases ho:one 257 t with
 |none=>
  simp only
  rw[qVE (show (-1:Int)≠(t.length:Int) by omega)]
  exact .inr ⟨fun ⟨F,hF⟩=>(by rw[hiff F hF] at ho;cases ho),rfl⟩
 |some x=>
  obtain ⟨F,l'⟩:=x
  obtain ⟨o1,o2,o3,o4⟩:=qRY 257 ho
  simp only
  by_cases hl':l'=[]
  ·subst hl'
   rw[qY4] at o1
   rw[qDE (show (t.length:Int) - (([]:List Nod).length:Int)=(t.length:Int) by simp)]
   obtain ⟨x,hx⟩:∃ x,F.srt=[x]:=by
    have:=qDM F
    rw[o3] at this
    match h:F.srt,this with
    |[x],_=>exact ⟨x,rfl⟩
   have hg:F.srt.getD 0 0=x:=by rw[hx];rfl
   have hz:F.size<=20000:=by rw[<-qXD,<-o1];omega
   by_cases h0:F.srt.getD 0 0=0
   ·rw[qHA h0]
    refine .inr ⟨fun ⟨G,hG⟩=>?_,rfl⟩
    have:=hiff G hG
    rw[ho] at this
    cases this
    exact hG.srt (by rw[hx,<-hg,h0];simp)
   rw[qDA h0]
   have hn:(0:Int)∉F.srt:=by rw[hx];simp;rw[hg] at h0;exact fun e=>h0 e.symm
   obtain ⟨b,b1,b2⟩:=qKn hs o1.symm o2 hn hz o4
   rw[b1,qAA]
   cases b with
   |true=>
    refine .inl ⟨F,⟨o1.symm,o2,hn,o3,hz,o4,b2.1 rfl⟩,rfl,?_⟩
    have:=qNo F o2 x (by rw[hx];simp)
    omega
   |false=>
    refine .inr ⟨fun ⟨G,hG⟩=>?_,rfl⟩
    have:=hiff G hG
    rw[ho] at this
    cases this
    have:=b2.2 hG.cns
    cases this
  ·have hpos:0 < l'.length:=List.length_pos_iff.2 hl'
   rw[qVE (by omega)]
   refine .inr ⟨fun ⟨G,hG⟩=>?_,rfl⟩
   have:=hiff G hG
   rw[ho] at this
   cases this
   exact hl' rfl
theorem qCh {t:List Nod} (hs:qTQ t):∃ b,qHS t=some ((b,()),())/\(b=true ↔ ∃ F,VT t F):=by
 unfold qHS
 rcases qUo hs with ⟨F,h1,h2,h3⟩ | ⟨h1,h2⟩
 ·rw[h2,qAA]
  exact ⟨_,rfl,fun _=>⟨F,h1⟩,fun _=>qZ10 (show F.srt.getD 0 0 > 0 by omega)⟩
 ·rw[h2,qAA]
  exact ⟨_,rfl,fun h=>(by cases h),fun h=>absurd h h1⟩
end Go.AM.Num
end
section
namespace Go.AM.Num
open Tf
theorem qMaa {A:qBs->Option SV} {G:Nod->List SV->Int ⊕ SV} (n:Nod) (k r:Tf):evF A G (cons n k r)=match evF A G (cons n k nil) with
 |.inl e=>.inl e
 |.inr us=>match evF A G r with
  |.inl e=>.inl e
  |.inr ws=>.inr (us++ws):=by
 simp only[evF]
 cases evF A G k with
 |inl e=>rfl
 |inr vs=>
  simp only
  cases evN A G n vs with
  |inl e=>rfl
  |inr v=>
   simp only
   cases evF A G r<;>rfl
end Go.AM.Num
end
section
namespace Go.AM.Num
open Tf
theorem qNab (kids:List (List Nod)) (hl:kids.length<=1000):∀ (m i:Nat) (t:List Nod),i+m=kids.length->t.length+(kids.drop i).flatten.length<=100000->
 qOA qNT (kids,t,(i:Int),())=some (.exit 0,(kids,t++(kids.drop i).flatten,(kids.length:Int),())):=by
 intro m
 induction m with
 |zero=>
  intro i t hi _
  have e:kids.drop i=[]:=qY7 (by omega)
  rw[e]
  refine qWA ?_ (by simp)
  unfold qNT
  simp only
  have:i=kids.length:=by omega
  rw[qNA (by omega),this]
  simp
 |succ m ih=>
  intro i t hi hb
  have hil:i < kids.length:=by omega
  have hd:=qY6 hil
  have hg:kids.getD i []=kids[i]:=by simp[qZ4,hil]
  rw[hd] at hb ⊢
  simp only[List.flatten_cons,qZ6] at hb
  rw[qAB (y:=(kids,t++kids[i],((i+1:Nat):Int),())) (by
   unfold qNT
   simp only
   rw[qIA (by omega),qEA,qBA (by omega),qBA (by omega),qZ0,hg,qBA (by simp only[qXE];omega),w64 (by omega)]
   rfl)]
  rw[ih (i+1) _ (by omega) (by simp only[qZ6];omega)]
  simp only[List.flatten_cons,qZ1]
theorem qVW {n:Nod} {kids:List (List Nod)} (hl:kids.length<=1000) (hb:kids.flatten.length<=90000):qUO n kids=some (((n.1,n.2.1,n.2.2.1,n.2.2.2.1,(kids.length:Int))::kids.flatten,()),()):=by
 unfold qUO
 have:=qNab kids hl kids.length 0 [(n.1,n.2.1,n.2.2.1,n.2.2.2.1,(kids.length:Int))] (by omega) (by simp only[List.drop_zero,qY11,List.length_nil];omega)
 rw[show ((0:Nat):Int)=0 from rfl] at this
 rw[this]
 simp only[qAA,qDC,qPA,List.drop_zero]
 rfl
theorem qTP.len {VS:List Vr} {ss:List Int} {N d:Nat} {l:List Nod} (h:qTP VS ss N d l):l.length<=N:=by
 obtain ⟨K,hK⟩:=h
 rw[<-hK.flat,qXD];exact hK.size
theorem qTP.sub {VS:List Vr} {ss:List Int} {N d:Nat} {l:List Nod} (h:qTP [] ss N d l):qTP VS ss N d l:=by
 obtain ⟨K,hK⟩:=h
 exact ⟨K,hK.flat,hK.wf,hK.srt,hK.nz,hK.sh,hK.size,hK.dep,fun x hx h4=>absurd (hK.vars x hx h4) qY16,hK.noap⟩
theorem qRX {o k:Int} (h:1<=o/\o<=20) (h':o≠3/\o≠4/\o≠5/\o≠16/\o≠17):qLC ((o,0,[],[],k):Nod)=true:=by
 unfold qLC
 simp only[nOp,qQF,qAO,qSQ]
 rw[if_neg (by omega),if_neg (by omega),if_neg (by omega),qZ10 h]
 rfl
theorem qGU {VS:List Vr} {ss:List Int} {N d:Nat} {kids:List (List Nod)} {o s:Int} (hK:qTP VS ss N d kids.flatten) (hl:kids.length=ss.length) (h1000:kids.length<=1000) (hN:N<=50000) (h:1<=o/\o<=20) (h':o≠3/\o≠4/\o≠5/\o≠16/\o≠17)
 (hc:qHB o ss.length=true) (hs:qTC ((o,0,[],[],(ss.length:Int)):Nod) (kids.flatten.getD 0 qSE).1 ss=s) (hz:s≠0):∃ t,qNc o kids=some ((t,()),())/\qTP VS [s] (N+1) (d+1) t:=by
 refine ⟨(o,0,[],[],(kids.length:Int))::kids.flatten,?_,?_⟩
 ·unfold qNc
  rw[qVW h1000 (by have:=hK.len;omega),qAA]
 ·rw[hl]
  exact hK.node (qRX h h') hc rfl hs hz (by simp[qSQ]) (fun e=>absurd e h'.2.1) h'.2.2.1
theorem qNam {d:Int} {P:KV} (hP:P.length<=100) (hs:∀ p∈P,(ti p.1).length<=73/\(ti p.2).length<=73):∀ (m i:Nat) (t:List Nod),i+m=P.length->qTP [] [4] (2+3 * i) (2+i) t->
 ∃ t',qOA qTG (qTH d P,([]:List Nod),0,t,(i:Int),())=some (.exit 1,(qTH d P,([]:List Nod),0,t',(P.length:Int),()))/\qTP [] [4] (2+3 * P.length) (2+P.length) t':=by
 intro m
 induction m with
 |zero=>
  intro i t hi hg
  have:i=P.length:=by omega
  refine ⟨t,qWA ?_ (by simp),by rw[<-this];exact hg⟩
  unfold qTG
  simp only
  rw[qNA (by rw[qNF];omega),this]
 |succ m ih=>
  intro i t hi hg
  have hil:i < P.length:=by omega
  have hp:=hs _ (List.getElem_mem hil)
  have hlen:=hg.len
  have hk:=((hg.app ((qKe hp.1).mono (Nat.le_refl _) (show 1<=2+i by omega))).app ((qKe hp.2).mono (Nat.le_refl _) (show 1<=2+i by omega)))
  have hfl:[t,[((3:Int),(2:Int),([]:qBs),ti P[i].1,(0:Int))],[((3:Int),(2:Int),([]:qBs),ti P[i].2,(0:Int))]].flatten=t++[((3:Int),(2:Int),([]:qBs),ti P[i].1,(0:Int))]++[((3:Int),(2:Int),([]:qBs),ti P[i].2,(0:Int))]:=by simp
  have hj:=qVW (n:=((19:Int),(0:Int),([]:qBs),([]:qBs),(0:Int))) (kids:=[t,[((3:Int),(2:Int),([]:qBs),ti P[i].1,(0:Int))],[((3:Int),(2:Int),([]:qBs),ti P[i].2,(0:Int))]]) (by simp) (by simp;omega)
  rw[hfl] at hj
  have hn:=hk.node (n:=((19:Int),(0:Int),([]:qBs),([]:qBs),(3:Int))) (s:=4) (qRX (by omega) (by omega)) rfl rfl (by simp[qTC,nOp]) (by omega) (by simp[qSQ]) (fun e=>by simp[nOp] at e) (by simp[nOp])
  obtain ⟨t',h1,h2⟩:=ih (i+1) _ (by omega) (hn.mono (show 2+3 * i+1+1+1<=2+3 * (i+1) by omega) (show 2+i+1<=2+(i+1) by omega))
  refine ⟨t',?_,h2⟩
  rw[qAB (y:=(qTH d P,([]:List Nod),0,_,((i+1:Nat):Int),())) (by
   unfold qTG
   simp only
   rw[qIA (by rw[qNF];omega),qNA (by omega),qEA,qBA (by omega),qBA (by rw[qNF];omega),qZ0,qAW hil,qPb hil]
   unfold qBM
   rw[qAA,qEA,qBA (by omega),qBA (by rw[qJK];omega),qAA]
   simp only
   rw[hj,qAA,w64 (by omega)]
   rfl)]
  exact h1
def qGam (v:SV):Prop:=okS v/\match v with
 |.b _=>True
 |.z n=>(ti n).length<=73
 |.q r=>(txt r).length<=73
 |.a d P=>(ti d).length<=73/\(∀ p∈P,(ti p.1).length<=73/\(ti p.2).length<=73)/\P.length<=100
def qRW:SV->Nat
 |.a _ P=>P.length
 |_=>0
theorem qCab {v:SV} (h:qGam v):Short 73 (encS v):=by
 obtain ⟨h1,h2⟩:=h
 cases v with
 |b x=>exact ⟨by simp[encS],fun s hs=>by simp[encS] at hs,fun s hs=>by simp[encS] at hs,by simp[encS]⟩
 |z n=>exact ⟨h2,fun s hs=>by simp[encS] at hs,fun s hs=>by simp[encS] at hs,by simp[encS]⟩
 |q r=>exact ⟨h2,fun s hs=>by simp[encS] at hs,fun s hs=>by simp[encS] at hs,by simp[encS]⟩
 |a d P=>
  obtain ⟨a1,a2,a3⟩:=h2
  exact (Sm.short (N:=73) ⟨a1,a2,by omega⟩)
theorem qMh {v:SV} (h:qGam v):∃ t,qHI (encS v)=some ((t,0,()),())/\qTP [] [qVH v] (2+3 * qRW v) (2+qRW v) t:=by
 have hsh:=qCab h
 obtain ⟨h1,h2⟩:=h
 have hval:=qXf (N:=73) (by omega) hsh
 rw[qWf h1] at hval
 unfold qHI
 rw[hval,qAA]
 simp only[qY2,qBB]
 cases v with
 |b x=>
  cases x
  ·exact ⟨_,rfl,qKm.mono (by simp[qRW]) (by simp[qRW])⟩
  ·exact ⟨_,rfl,qKu.mono (by simp[qRW]) (by simp[qRW])⟩
 |z n=>exact ⟨_,rfl,(qKe h2).mono (by simp[qRW]) (by simp[qRW])⟩
 |q r=>exact ⟨_,rfl,(qTac h2).mono (by simp[qRW]) (by simp[qRW])⟩
 |a d P=>
  obtain ⟨a1,a2,a3⟩:=h2
  have hk:=(qKe (VS:=[]) a1).node (n:=((20:Int),(0:Int),([]:qBs),([]:qBs),(1:Int))) (s:=4) (qRX (by omega) (by omega)) rfl rfl (by simp[qTC,nOp]) (by omega) (by simp[qSQ]) (fun e=>by simp[nOp] at e) (by simp[nOp])
  obtain ⟨t',e1,e2⟩:=qNam (d:=d) a3 a2 P.length 0 _ (by omega) (hk.mono (by omega) (by omega))
  obtain ⟨F,hF⟩:=e2
  have hvt:=qKak ⟨fun v h=>absurd h qY16,fun v h=>absurd h qY16⟩ hF (by omega) (by omega)
  obtain ⟨b,b1,b2⟩:=qCh (t:=t') fun n hn=>by have:=hF.sh n hn;omega
  have hb:b=true:=b2.2 ⟨F,hvt⟩
  have e:encS (.a d P)=qTH d P:=rfl
  rw[e]
  simp only
  rw[qDA (by omega),qDA (by omega),qDA (by omega)]
  unfold qBM
  simp only[qAA]
  have hj:=qVW (n:=((20:Int),(0:Int),([]:qBs),([]:qBs),(0:Int))) (kids:=[[((3:Int),(2:Int),([]:qBs),ti d,(0:Int))]]) (by simp) (by simp)
  rw[hj,qAA]
  rw[show ((0:Nat):Int)=0 from rfl] at e1
  have e1':qOA qTG (qTH d P,([]:List Nod),0,(((20:Int),(0:Int),([]:qBs),([]:qBs),(([[((3:Int),(2:Int),([]:qBs),ti d,(0:Int))]].length:Nat):Int)):Nod)::[[((3:Int),(2:Int),([]:qBs),ti d,(0:Int))]].flatten,0,())=some (.exit 1,(qTH d P,([]:List Nod),0,t',(P.length:Int),())):=e1
  rw[e1']
  simp only[qAA,qDC,qPA]
  rw[b1,qAA,hb]
  exact ⟨t',rfl,⟨F,hF⟩⟩
theorem qUx {c:List Int×Int} (hc:CI c) {s:Int} (hs:1<=s/\s<=4):∃ v c',qRE c s=some ((encS v,()),(c',()))/\CI c'/\qVH v=s/\qGam v/\qRW v<=1:=by
 have hf:∀ r:Int,-10<=r/\r<=10->qKF r=some ((ti r,()),())/\(ti r).length<=73:=fun r h=>by
  refine ⟨qVG ⟨by omega,by omega⟩,?_⟩
  have:=qJF (r:Rat)
  have:=qWR (n:=r) (by omega)
  unfold ti;omega
 unfold qRE
 by_cases h1:s=1
 ·obtain ⟨r,c',n1,n2,n3,n4⟩:=qWB hc (n:=2) (by omega)
  rw[qHA h1,n1,qAA,h1]
  exact ⟨.b (r==1),c',rfl,n2,rfl,⟨trivial,trivial⟩,by simp[qRW]⟩
 rw[qDA h1]
 by_cases h4:s=4
 ·obtain ⟨r1,c1,a1,a2,a3,a4⟩:=qWB hc (n:=3) (by omega)
  obtain ⟨r2,c2,b1,b2,b3,b4⟩:=qWB a2 (n:=3) (by omega)
  obtain ⟨r3,c3,d1,d2,d3,d4⟩:=qWB b2 (n:=3) (by omega)
  rw[qHA h4,a1,qAA,(hf r1 (by omega)).1,qAA,b1,qAA,(hf r2 (by omega)).1,qAA,d1,qAA,(hf r3 (by omega)).1,qAA,h4]
  have hst:=qRm (N:=73) (by omega) (d:=r1) (i:=r2) (n:=r3) (qEY r1) (qSz (hf r1 (by omega)).2) (hf r2 (by omega)).2 (hf r3 (by omega)).2
  have e:(qTH r1 []:Val)=((4:Int),false,ti r1,([]:List qBs),([]:List qBs)):=rfl
  rw[e] at hst
  simp only
  rw[hst,qAA]
  have hlen:=qEq (d:=r1) (i:=r2) (n:=r3) (P:=[]) List.Pairwise.nil
  have hsm:=qBal (N:=73) (d:=r1) (i:=r2) (n:=r3) (P:=[]) List.Pairwise.nil (qSz (hf r1 (by omega)).2) (hf r2 (by omega)).2 (hf r3 (by omega)).2 (by simp)
  refine ⟨.a r1 (stP r1 [] r2 r3),c3,rfl,d2,rfl,⟨qLf (qEY r1) r2 r3,hsm.num,hsm.els,?_⟩,?_⟩
  ·simp at hlen;omega
  ·simpa [qRW] using hlen
 ·rw[qDA h4]
  obtain ⟨r,c',n1,n2,n3,n4⟩:=qWB hc (n:=6) (by omega)
  rw[n1,qAA]
  simp only
  rw[w64 (by omega),(hf (r - 2) (by omega)).1,qAA]
  by_cases h2:s=2
  ·rw[h2]
   exact ⟨.z (r - 2),c',rfl,n2,rfl,⟨trivial,(hf (r - 2) (by omega)).2⟩,by simp[qRW]⟩
  ·have h3:s=3:=by omega
   rw[h3]
   exact ⟨.q ((r - 2:Int):Rat),c',rfl,n2,rfl,⟨trivial,(hf (r - 2) (by omega)).2⟩,by simp[qRW]⟩
def qLL (VS:List Vr) (c:List Int×Int) (s:Int) (N d:Nat) (r:Option (((List Nod)×Unit)×(qCA×Unit))):Prop:=∃ t c',r=some ((t,()),(c',()))/\CI c'/\qTP VS [s] N d t
theorem qTs {VS:List Vr} {c:List Int×Int} (hc:CI c) {s:Int} (hs:1<=s/\s<=4):qLL VS c s 5 3 ((qRE c s).bind fun r2=>(qHI r2.1.1).bind fun r3=>some ((r3.1.1,()),r2.2.1,())):=by
 obtain ⟨v,c',h1,h2,h3,h4,h5⟩:=qUx hc hs
 obtain ⟨t,t1,t2⟩:=qMh h4
 rw[h1,qAA,t1,qAA]
 rw[h3] at t2
 exact ⟨t,c',rfl,h2,(t2.mono (by omega) (by omega)).sub⟩
theorem qCai {c:List Int×Int} {VS:List Vr} {s:Int} (hl:VS.length<=1000):∀ (m i:Nat) (l:List Vr),i+m=VS.length->l.length<=i->
 qOA qLD (c,s,VS,l,(i:Int),())=some (.exit 0,(c,s,VS,l++(VS.drop i).filter (fun v=>decide (v.2=s)),(VS.length:Int),())):=by
 intro m
 induction m with
 |zero=>
  intro i l hi _
  have e:VS.drop i=[]:=qY7 (by omega)
  rw[e]
  refine qWA ?_ (by simp)
  unfold qLD
  simp only
  have:i=VS.length:=by omega
  rw[qNA (by omega),this]
  simp
 |succ m ih=>
  intro i l hi hb
  have hil:i < VS.length:=by omega
  have hd:=qY6 hil
  have hg:VS.getD i zVr=VS[i]:=by simp[qZ4,hil]
  rw[hd]
  generalize VS[i]=v at hg hd
  by_cases h:v.2=s
  ·rw[qAB (y:=(c,s,VS,l++[v],((i+1:Nat):Int),())) (by
    unfold qLD
    simp only
    rw[qIA (by omega),qEA,qBA (by omega),qBA (by omega),qZ0,hg,qHA h,qEA,qBA (by omega),qBA (by omega),qBA (by simp[qXE];omega),w64 (by omega)]
    rfl)]
   rw[ih (i+1) _ (by omega) (by simp;omega),List.filter_cons,if_pos (qZ10 h)]
   simp
  ·rw[qAB (y:=(c,s,VS,l,((i+1:Nat):Int),())) (by
    unfold qLD
    simp only
    rw[qIA (by omega),qEA,qBA (by omega),qBA (by omega),qZ0,hg,qDA h,w64 (by omega)]
    rfl)]
   rw[ih (i+1) _ (by omega) (by omega),List.filter_cons,if_neg (fun e=>h (of_decide_eq_true e))]
theorem qVN {VS:List Vr} (hV:VSok VS) (hl:VS.length<=1000) {c:List Int×Int} (hc:CI c) {s:Int} (hs:1<=s/\s<=4):qLL VS c s 5 3 (qCB c s VS):=by
 unfold qCB
 have key:=qCai (c:=c) (s:=s) hl VS.length 0 [] (by omega) (by simp)
 rw[show ((0:Nat):Int)=0 from rfl] at key
 rw[key]
 simp only[qAA,qDC,qPA,qY15,List.drop_zero]
 have hmem:∀ v∈VS.filter (fun v=>decide (v.2=s)),v∈VS/\v.2=s:=fun v hv=>by simpa using hv
 have hfl:(VS.filter (fun v=>decide (v.2=s))).length<=VS.length:=List.length_filter_le _ _
 generalize VS.filter (fun v=>decide (v.2=s))=L at hmem hfl
 by_cases h0:L.length=0
 ·rw[qHA (by omega)]
  exact qTs hc hs
 ·rw[qDA (by omega)]
  obtain ⟨r,c',n1,n2,n3,n4⟩:=qWB hc (n:=(L.length:Int)) (by omega)
  obtain ⟨k,rfl⟩:∃ k:Nat,r=k:=⟨r.toNat,by omega⟩
  have hk:k < L.length:=by omega
  have hg:L.getD k zVr=L[k]:=by simp[qZ4,hk]
  rw[n1,qAA,qEA,qBA (by omega),qBA (by omega)]
  simp only[qZ0]
  rw[qBA hk,hg]
  obtain ⟨m1,m2⟩:=hmem _ (List.getElem_mem hk)
  have hm:(L[k].1,s)∈VS:=by rw[<-m2];exact m1
  exact ⟨_,c',rfl,n2,(qPal hV hm).mono (by omega) (by omega)⟩
end Go.AM.Num
end
section
namespace Go.AM.Num
open Tf
abbrev TmF:=qCA->Int->Int->List Vr->Option (((List Nod)×Unit)×(qCA×Unit))
abbrev FmF:=qCA->Int->List Vr->Option (((List Nod)×Unit)×(qCA×Unit))
def TOk (VS:List Vr) (T:TmF) (d N D:Nat):Prop:=∀ c s,CI c->1<=s/\s<=4->qLL VS c s N D (T c s (d:Int) VS)
def AOk (VS:List Vr) (T:TmF) (d N D:Nat):Prop:=∀ c s,CI c->s=2\/s=3->qLL VS c s N D (T c s (d:Int) VS)
def FOk (VS:List Vr) (F:FmF) (d N D:Nat):Prop:=∀ c,CI c->qLL VS c 1 N D (F c (d:Int) VS)
theorem qLL.mono {VS:List Vr} {c:List Int×Int} {s:Int} {N d M e:Nat} {r:Option (((List Nod)×Unit)×(qCA×Unit))} (h:qLL VS c s N d r) (hN:N<=M) (hd:d<=e):qLL VS c s M e r:=by
 obtain ⟨t,c',h1,h2,h3⟩:=h
 exact ⟨t,c',h1,h2,h3.mono hN hd⟩
theorem qLL.eta {VS:List Vr} {c:List Int×Int} {s:Int} {N d:Nat} {r:Option (((List Nod)×Unit)×(qCA×Unit))} (h:qLL VS c s N d r):qLL VS c s N d (r.bind fun r2=>some ((r2.1.1,()),r2.2.1,())):=by
 obtain ⟨t,c',h1,h2,h3⟩:=h
 rw[h1]
 exact ⟨t,c',rfl,h2,h3⟩
section
variable {VS:List Vr} (T:TmF) (F:FmF) (I:TmF) (Ar:TmF) (At:FmF)
theorem qVK (a:List Nod):[a].flatten=a:=by simp
theorem qSK (a b:List Nod):[a,b].flatten=a++b:=by simp
theorem qYai (a b c:List Nod):[a,b,c].flatten=a++b++c:=by simp
theorem qLae {c:List Int×Int} (hc:CI c) {s:Int} (hs:1<=s/\s<=4) (hV:VSok VS) (hl:VS.length<=1000):qLL VS c s 5 3 ((qFA c 3).bind fun r1=>
 cond (r1.1.1==(0:Int))
  ((qRE r1.2.1 s).bind fun r2=>
  (qHI r2.1.1).bind fun r3=>
  some ((r3.1.1,()),r2.2.1,()))
  ((qCB r1.2.1 s VS).bind fun r4=>
  some ((r4.1.1,()),r4.2.1,()))):=by
 obtain ⟨r,c',n1,n2,n3,n4⟩:=qWB hc (n:=3) (by omega)
 rw[n1,qAA]
 by_cases h:r=0
 ·rw[qHA h];exact qTs n2 hs
 ·rw[qDA h];exact (qVN hV hl n2 hs).eta
theorem T0 (hV:VSok VS) (hl:VS.length<=1000):TOk VS (qWF T F I Ar At) 0 5 3:=by
 intro c s hc hs
 unfold qWF
 rw[qIA (by omega)]
 exact qLae hc hs hV hl
theorem qRz (hV:VSok VS) (hl:VS.length<=1000) {d N D:Nat} (hN:N<=10000) (hT:TOk VS T d N D):FOk VS (qVJ T F I Ar At) d (max 5 (1+2 * N)) (max 3 (D+1)):=by
 intro c hc
 unfold qVJ
 obtain ⟨r,c1,n1,n2,n3,n4⟩:=qWB hc (n:=5) (by omega)
 rw[n1,qAA,qEA,qBA (by simpa using n3),qBA (by simp;omega)]
 have hr:r=0\/r=1\/r=2\/r=3\/r=4:=by omega
 have hg:∃ s:Int,([2,2,3,4,1]:List Int).getD r.toNat 0=s/\1<=s/\s<=4:=by
  rcases hr with rfl | rfl | rfl | rfl | rfl
  ·exact ⟨2,rfl,by omega,by omega⟩
  ·exact ⟨2,rfl,by omega,by omega⟩
  ·exact ⟨3,rfl,by omega,by omega⟩
  ·exact ⟨4,rfl,by omega,by omega⟩
  ·exact ⟨1,rfl,by omega,by omega⟩
 obtain ⟨s,hgs,hs⟩:=hg
 simp only
 rw[hgs]
 by_cases h1:s=1
 ·rw[qHA h1]
  obtain ⟨r2,c2,m1,m2,m3,m4⟩:=qWB n2 (n:=3) (by omega)
  rw[m1,qAA]
  by_cases h0:r2=0
  ·rw[qHA h0]
   obtain ⟨r3,c3,k1,k2,k3,k4⟩:=qWB m2 (n:=2) (by omega)
   simp only
   rw[k1,qAA]
   simp only
   unfold qUk
   cases (r3==1)
   ·exact ⟨_,c3,rfl,k2,qKm.mono (by omega) (by omega)⟩
   ·exact ⟨_,c3,rfl,k2,qKu.mono (by omega) (by omega)⟩
  ·rw[qDA h0,h1]
   exact ((qVN hV hl m2 (by omega)).eta).mono (by omega) (by omega)
 rw[qDA h1]
 by_cases h4:s=4
 ·rw[qDE h4]
  obtain ⟨t1,c2,a1,a2,a3⟩:=hT _ s n2 hs
  obtain ⟨t2,c3,b1,b2,b3⟩:=hT _ s a2 hs
  rw[a1,qAA,b1,qAA]
  obtain ⟨t,o1,o2⟩:=qGU (o:=11) (s:=1) (kids:=[t1,t2]) (by rw[qSK];exact a3.app b3) rfl (by simp) (by omega) (by omega) (by omega) rfl (by simp[qTC,nOp]) (by omega)
  rw[o1,qAA]
  exact ⟨t,c3,rfl,b2,o2.mono (by omega) (by omega)⟩
 ·rw[qVE h4]
  obtain ⟨r2,c2,m1,m2,m3,m4⟩:=qWB n2 (n:=3) (by omega)
  obtain ⟨t1,c3,a1,a2,a3⟩:=hT _ s m2 hs
  obtain ⟨t2,c4,b1,b2,b3⟩:=hT _ s a2 hs
  rw[m1,qAA,a1,qAA,b1,qAA]
  simp only
  rw[w64 (by omega)]
  have hs':s=2\/s=3:=by omega
  have hsm:qTC (((11:Int)+r2,0,[],[],(([s]++[s]:List Int).length:Int)):Nod) ((t1++t2).getD 0 qSE).1 ([s]++[s])=1:=by
   have:r2=0\/r2=1\/r2=2:=by omega
   rcases this with rfl | rfl | rfl
   ·simp[qTC,nOp]
   ·simp[qTC,nOp,hs']
   ·simp[qTC,nOp,hs']
  have hcc:qHB ((11:Int)+r2) ([s]++[s]:List Int).length=true:=by
   have:r2=0\/r2=1\/r2=2:=by omega
   rcases this with rfl | rfl | rfl<;>rfl
  obtain ⟨t,o1,o2⟩:=qGU (o:=(11:Int)+r2) (s:=1) (kids:=[t1,t2]) (ss:=[s]++[s]) (by rw[qSK];exact a3.app b3) rfl (by simp) (by omega) (by omega) (by omega) hcc (by rw[qSK];exact hsm) (by omega)
  rw[o1,qAA]
  exact ⟨t,c4,rfl,b2,o2.mono (by omega) (by omega)⟩
theorem qPaq {d N D:Nat} (hd:d<=1000) (hN:N<=10000) (hT:TOk VS T d N D) (hF:FOk VS F d N D):TOk VS (qUL T F I Ar At) (d+1) (1+3 * N) (D+1):=by
 intro c s hc hs
 unfold qUL
 have hw:qI (((d+1:Nat):Int) - 1)=(d:Int):=by rw[w64 (by omega)];omega
 obtain ⟨t1,c1,a1,a2,a3⟩:=hF _ hc
 obtain ⟨t2,c2,b1,b2,b3⟩:=hT _ s a2 hs
 obtain ⟨t3,c3,e1,e2,e3⟩:=hT _ s b2 hs
 rw[hw,a1,qAA,b1,qAA,e1,qAA]
 obtain ⟨t,o1,o2⟩:=qGU (o:=10) (s:=s) (kids:=[t1,t2,t3]) (ss:=[1]++[s]++[s]) (by rw[qYai];exact (a3.app b3).app e3) rfl (by simp) (by omega) (by omega) (by omega) rfl (by simp[qTC,nOp]) (by omega)
 rw[o1,qAA]
 exact ⟨t,c3,rfl,e2,o2.mono (by omega) (by omega)⟩
theorem qAu (n:Nat) (s:Int):List.replicate n s++[s]=List.replicate (n+1) s:=by rw[List.replicate_succ']
theorem qFah {d N D:Nat} (hd:d<=1000) (hN:N<=10000) (hT:TOk VS T d N D) {s:Int} (hs:1<=s/\s<=4):∀ (m k:Nat) (c:List Int×Int) (l:List (List Nod)),CI c->k+m<=5->l.length=k->qTP VS (List.replicate k s) (k * N) D l.flatten->
 ∃ c' l',qOA (qUD T F I Ar At) (c,s,((d+1:Nat):Int),VS,l,(m:Int),())=some (.exit 1,(c',s,((d+1:Nat):Int),VS,l',0,()))/\CI c'/\l'.length=k+m/\qTP VS (List.replicate (k+m) s) ((k+m) * N) D l'.flatten:=by
 have hw:qI (((d+1:Nat):Int) - 1)=(d:Int):=by rw[w64 (by omega)];omega
 intro m
 induction m with
 |zero=>
  intro k c l hc _ hlk hg
  exact ⟨c,l,qWA (by unfold qUD;simp only;rw[qNA (by omega)];rfl) (by simp),hc,hlk,hg⟩
 |succ m ih=>
  intro k c l hc hb hlk hg
  obtain ⟨t1,c1,a1,a2,a3⟩:=hT _ s hc hs
  have hg':qTP VS (List.replicate (k+1) s) ((k+1) * N) D (l++[t1]).flatten:=by
   have:=hg.app a3
   rw[qAu] at this
   rw[List.flatten_append,qVK,Nat.add_mul,Nat.one_mul]
   exact this
  obtain ⟨c',l',e1,e2,e3,e4⟩:=ih (k+1) c1 (l++[t1]) a2 (by omega) (by simp[hlk]) hg'
  refine ⟨c',l',?_,e2,by omega,?_⟩
  ·rw[qAB (y:=(c1,s,((d+1:Nat):Int),VS,l++[t1],(m:Int),())) (by
    unfold qUD
    simp only
    rw[qIA (by omega),hw,a1,qAA,qBA (by simp[qXE];omega),w64 (by omega)]
    have e:((m+1:Nat):Int) - 1=(m:Int):=by omega
    rw[e])]
   exact e1
  ·have e:k+(m+1)=k+1+m:=by omega
   rw[e];exact e4
theorem qWag {d N D:Nat} (hd:d<=1000) (hN:N<=10000) (hF:FOk VS F d N D):∀ (m k:Nat) (c:List Int×Int) (l:List (List Nod)),CI c->k+m<=5->l.length=k->qTP VS (List.replicate k 1) (k * N) D l.flatten->
 ∃ c' l',qOA (qQB T F I Ar At) (c,((d+1:Nat):Int),VS,l,(m:Int),())=some (.exit 1,(c',((d+1:Nat):Int),VS,l',0,()))/\CI c'/\l'.length=k+m/\qTP VS (List.replicate (k+m) 1) ((k+m) * N) D l'.flatten:=by
 have hw:qI (((d+1:Nat):Int) - 1)=(d:Int):=by rw[w64 (by omega)];omega
 intro m
 induction m with
 |zero=>
  intro k c l hc _ hlk hg
  exact ⟨c,l,qWA (by unfold qQB;simp only;rw[qNA (by omega)];rfl) (by simp),hc,hlk,hg⟩
 |succ m ih=>
  intro k c l hc hb hlk hg
  obtain ⟨t1,c1,a1,a2,a3⟩:=hF _ hc
  have hg':qTP VS (List.replicate (k+1) 1) ((k+1) * N) D (l++[t1]).flatten:=by
   have:=hg.app a3
   rw[qAu] at this
   rw[List.flatten_append,qVK,Nat.add_mul,Nat.one_mul]
   exact this
  obtain ⟨c',l',e1,e2,e3,e4⟩:=ih (k+1) c1 (l++[t1]) a2 (by omega) (by simp[hlk]) hg'
  refine ⟨c',l',?_,e2,by omega,?_⟩
  ·rw[qAB (y:=(c1,((d+1:Nat):Int),VS,l++[t1],(m:Int),())) (by
    unfold qQB
    simp only
    rw[qIA (by omega),hw,a1,qAA,qBA (by simp[qXE];omega),w64 (by omega)]
    have e:((m+1:Nat):Int) - 1=(m:Int):=by omega
    rw[e])]
   exact e1
  ·have e:k+(m+1)=k+1+m:=by omega
   rw[e];exact e4
theorem qOak {c:List Int×Int} (hc:CI c) {s:Int} (hs:s=2\/s=3):∃ a c',qTD c s=some ((a,()),(c',()))/\CI c'/\qBM s a=some (([((3:Int),s,([]:qBs),a,(0:Int))],()),())/\qTP VS [s] 1 1 [((3:Int),s,([]:qBs),a,(0:Int))]:=by
 unfold qTD
 rcases hs with rfl | rfl
 ·obtain ⟨z,c',h1,h2,h3⟩:=qCV hc
  rw[qHA rfl,h1,qAA]
  exact ⟨ti z,c',rfl,h2,rfl,qKe (by omega)⟩
 ·obtain ⟨q,c',h1,h2,h3⟩:=qEf hc
  have:=qJF q
  rw[qDA (by omega),h1,qAA]
  exact ⟨txt q,c',rfl,h2,rfl,qTac (by omega)⟩
end
end Go.AM.Num
end
section
namespace Go.AM.Num
open Tf
section
variable {VS:List Vr} (T:TmF) (F:FmF) (I:TmF) (Ar:TmF) (At:FmF)
theorem qAaj {VS:List Vr} {N D:Nat} {t:List Nod} (h:qTP VS [2] N D t) {o r:Int} (ho:o=16\/o=17) (hr:0 < r/\r < 1000):qTP VS [2] (N+1) (D+1) ((o,0,[],ti r,1)::t):=by
 have hsg:qSW (ti r)=1:=by
  unfold qSW ti
  rw[qOK]
  simp only[Rat.num_intCast]
  exact Int.sign_eq_one_of_pos hr.1
 have hl:(ti r).length<=73:=by
  have:=qJF (r:Rat)
  have:=qWR (n:=r) (by omega)
  unfold ti;omega
 refine h.node (n:=(o,0,[],ti r,1)) ?_ ?_ rfl ?_ (by omega) hl (fun e=>?_) ?_
 ·unfold qLC
  simp only[nOp,qQF,qAO,qSQ]
  rw[if_neg (by omega),if_neg (by omega),if_pos ho,qUV,hsg]
  rfl
 ·rcases ho with rfl | rfl<;>rfl
 ·rcases ho with rfl | rfl<;>simp[qTC,nOp]
 ·simp only[nOp] at e;omega
 ·simp only[nOp];omega
theorem qEah (hV:VSok VS) (hl:VS.length<=1000) {d N D:Nat} (hd:d<=1000) (hN:5<=N/\N<=10000) (hD:3<=D) (hT:TOk VS T d N D) (hI:TOk VS I (d+1) (1+3 * N) (D+1)):AOk VS (qOF T F I Ar At) (d+1) (1+3 * N) (D+1):=by
 intro c s hc hs
 have hs':1<=s/\s<=4:=by omega
 have hw:qI (((d+1:Nat):Int) - 1)=(d:Int):=by rw[w64 (by omega)];omega
 have hvar:∀ c,CI c->qLL VS c s (1+3 * N) (D+1) ((qCB c s VS).bind fun r=>some ((r.1.1,()),r.2.1,())):=fun c hc=>((qVN hV hl hc hs').eta).mono (by omega) (by omega)
 have hnum:∀ c,CI c->qLL VS c s (1+3 * N) (D+1) ((qTD c s).bind fun r=>(qBM s r.1.1).bind fun r'=>some ((r'.1.1,()),r.2.1,())):=fun c hc=>by
  obtain ⟨a,c',h1,h2,h3,h4⟩:=qOak hc hs (VS:=VS)
  rw[h1,qAA,h3,qAA]
  exact ⟨_,c',rfl,h2,h4.mono (by omega) (by omega)⟩
 unfold qOF
 obtain ⟨r,c1,n1,n2,n3,n4⟩:=qWB hc (n:=10) (by omega)
 rw[n1,qAA]
 simp only[hw]
 by_cases h3:r < 3
 ·rw[qIA h3]
  obtain ⟨t1,c2,a1,a2,a3⟩:=hT _ s n2 hs'
  obtain ⟨r2,c3,m1,m2,m3,m4⟩:=qWB a2 (n:=3) (by omega)
  obtain ⟨m,rfl⟩:∃ m:Nat,r2=m:=⟨r2.toNat,by omega⟩
  obtain ⟨c4,l',e1,e2,e3,e4⟩:=qFah T F I Ar At hd hN.2 hT hs' m 1 c3 [t1] m2 (by omega) rfl (by rw[qVK,Nat.one_mul];exact a3)
  rw[a1,qAA,m1,qAA]
  simp only
  rw[e1]
  simp only[qAA,qDC,qPA]
  have hb:(1+m) * N<=3 * N:=Nat.mul_le_mul_right N (by omega)
  obtain ⟨t,o1,o2⟩:=qGU (o:=14) (s:=s) (kids:=l') e4 (by rw[e3,List.length_replicate]) (by omega) (by omega) (by omega) (by omega) (by rw[List.length_replicate];exact qZ10 (show (1:Int)<=((1+m:Nat):Int) by omega)) (by
   have e:(List.replicate (1+m) s).getD 0 0=s:=by rw[Nat.add_comm];simp[List.replicate_succ]
   have hal:∀ x∈List.replicate (1+m) s,x=s:=fun x hx=>(List.mem_replicate.1 hx).2
   unfold qTC
   simp only[nOp]
   rw[if_neg (by omega),if_neg (by omega),if_neg (by omega),if_neg (by omega),if_neg (by omega),if_pos trivial,e,if_pos ⟨hs,hal⟩]) (by omega)
  rw[o1,qAA]
  exact ⟨t,c4,rfl,e2,o2.mono (by omega) (by omega)⟩
 rw[qNA h3]
 by_cases h5:r < 5
 ·rw[qIA h5]
  obtain ⟨a,c2,k1,k2,k3,k4⟩:=qOak n2 hs (VS:=VS)
  obtain ⟨t1,c3,a1,a2,a3⟩:=hT _ s k2 hs'
  rw[k1,qAA,k3,qAA,a1,qAA]
  obtain ⟨t,o1,o2⟩:=qGU (o:=15) (s:=s) (kids:=[[((3:Int),s,([]:qBs),a,(0:Int))],t1]) (ss:=[s]++[s]) (by rw[qSK];exact (k4.mono (Nat.le_refl _) (show 1<=D by omega)).app a3) rfl (by simp) (by omega) (by omega) (by omega) rfl (by simp[qTC,nOp,hs]) (by omega)
  rw[o1,qAA]
  exact ⟨t,c3,rfl,a2,o2.mono (by omega) (by omega)⟩
 rw[qNA h5]
 by_cases h5':r=5
 ·rw[qHA h5']
  exact (hI _ s n2 hs').eta
 rw[qDA h5']
 by_cases h6:r=6
 ·rw[qHA h6]
  by_cases h2:s=2
  ·rw[qHA h2]
   obtain ⟨r2,c2,m1,m2,m3,m4⟩:=qWB n2 (n:=2) (by omega)
   obtain ⟨r3,c3,k1,k2,k3,k4⟩:=qWB m2 (n:=5) (by omega)
   obtain ⟨t1,c4,a1,a2,a3⟩:=hT _ s k2 hs'
   rw[m1,qAA]
   simp only
   rw[k1,qAA]
   simp only
   rw[w64 (x:=1+r3) (by omega),w64 (x:=16+r2) (by omega),qVG (show qVu (1+r3) from ⟨by omega,by omega⟩),qAA,a1,qAA]
   have hj:=qVW (n:=((16:Int)+r2,(0:Int),([]:qBs),txt ((1+r3:Int):Rat),(0:Int))) (kids:=[t1]) (by simp) (by rw[qVK];have:=a3.len;omega)
   rw[qVK] at hj
   simp only
   rw[hj,qAA]
   rw[h2] at a3 ⊢
   exact ⟨_,c4,rfl,a2,(qAaj a3 (o:=16+r2) (r:=1+r3) (by omega) (by omega)).mono (by omega) (by omega)⟩
  ·rw[qDA h2,qDA (by omega),qDA (by omega)]
   exact hvar _ n2
 rw[qDA h6]
 by_cases h7:r=7
 ·rw[qHA h7]
  by_cases h2:s=2
  ·rw[qHA h2]
   obtain ⟨t1,c2,a1,a2,a3⟩:=hT _ 4 n2 (by omega)
   obtain ⟨t2,c3,b1,b2,b3⟩:=hT _ s a2 hs'
   rw[a1,qAA,b1,qAA]
   rw[h2] at b3 ⊢
   obtain ⟨t,o1,o2⟩:=qGU (o:=18) (s:=2) (kids:=[t1,t2]) (ss:=[4]++[2]) (by rw[qSK];exact a3.app b3) rfl (by simp) (by omega) (by omega) (by omega) rfl (by simp[qTC,nOp]) (by omega)
   rw[o1,qAA]
   exact ⟨t,c3,rfl,b2,o2.mono (by omega) (by omega)⟩
  ·rw[qDA h2,qDA (by omega)]
   exact hvar _ n2
 rw[qDA h7]
 by_cases h8:r=8
 ·rw[qHA h8]
  exact hnum _ n2
 ·rw[qDA h8]
  exact hvar _ n2
theorem qIaa (c:List Int×Int):qLM c=some ((decide (c.2 < (c.1.length:Int)),()),(c,())):=rfl
theorem qFao {d N D:Nat} (hd:d<=1000) (hN:5<=N/\N<=10000) (hD:3<=D) (hF:FOk VS F d N D) (hI:TOk VS I (d+1) (1+3 * N) (D+1)) (hA0:FOk VS At 0 11 4) (hA:FOk VS At d (1+3 * N) (D+1)):FOk VS (qME T F I Ar At) (d+1) (1+3 * N) (D+1):=by
 intro c hc
 have hw:qI (((d+1:Nat):Int) - 1)=(d:Int):=by rw[w64 (by omega)];omega
 unfold qME
 rw[qNA (by omega),qIaa,qAA]
 by_cases hlf:¬ c.2 < (c.1.length:Int)
 ·rw[qZ9 hlf]
  simp only[qY1,qPA]
  exact ((hA0 _ hc).eta).mono (by omega) (by omega)
 rw[qZ10 (Decidable.not_not.1 hlf)]
 simp only[qY2,qBB]
 obtain ⟨r,c1,n1,n2,n3,n4⟩:=qWB hc (n:=12) (by omega)
 rw[n1,qAA]
 simp only[hw]
 have hnot:qLL VS c 1 (1+3 * N) (D+1) ((F c1 (d:Int) VS).bind fun r5=>(qNc 6 ([r5.1.1]:List (List Nod))).bind fun r6=>some ((r6.1.1,()),r5.2.1,())):=by
  obtain ⟨t1,c2,a1,a2,a3⟩:=hF _ n2
  rw[a1,qAA]
  obtain ⟨t,o1,o2⟩:=qGU (o:=6) (s:=1) (kids:=[t1]) (ss:=[1]) (by rw[qVK];exact a3) rfl (by simp) (by omega) (by omega) (by omega) rfl (by simp[qTC,nOp]) (by omega)
  rw[o1,qAA]
  exact ⟨t,c2,rfl,a2,o2.mono (by omega) (by omega)⟩
 have htwo:∀ o:Int,o=9\/o=11->qLL VS c 1 (1+3 * N) (D+1) ((F c1 (d:Int) VS).bind fun r5=>(F r5.2.1 (d:Int) VS).bind fun r6=>(qNc o ([r5.1.1,r6.1.1]:List (List Nod))).bind fun r7=>some ((r7.1.1,()),r6.2.1,())):=by
  intro o ho
  obtain ⟨t1,c2,a1,a2,a3⟩:=hF _ n2
  obtain ⟨t2,c3,b1,b2,b3⟩:=hF _ a2
  rw[a1,qAA,b1,qAA]
  obtain ⟨t,o1,o2⟩:=qGU (o:=o) (s:=1) (kids:=[t1,t2]) (ss:=[1]++[1]) (by rw[qSK];exact a3.app b3) rfl (by simp) (by omega) (by omega) (by omega) (by rcases ho with rfl | rfl<;>rfl) (by rcases ho with rfl | rfl<;>simp[qTC,nOp]) (by omega)
  rw[o1,qAA]
  exact ⟨t,c3,rfl,b2,o2.mono (by omega) (by omega)⟩
 have hand:qLL VS c 1 (1+3 * N) (D+1) ((qFA c1 4).bind fun r9=>(qOA (qQB T F I Ar At) (r9.2.1,((d+1:Nat):Int),VS,([]:List (List Nod)),r9.1.1,())).bind fun y10=>
  cond (Ex.same y10.1 (Ex.exit 1)) ((qFA y10.2.1 2).bind fun r11=>(qNc (qI ((7:Int)+r11.1.1)) y10.2.2.2.2.1).bind fun r12=>some ((r12.1.1,()),r11.2.1,())) none):=by
  obtain ⟨r2,c2,m1,m2,m3,m4⟩:=qWB n2 (n:=4) (by omega)
  obtain ⟨m,rfl⟩:∃ m:Nat,r2=m:=⟨r2.toNat,by omega⟩
  obtain ⟨c3,l',e1,e2,e3,e4⟩:=qWag T F I Ar At hd hN.2 hF m 0 c2 [] m2 (by omega) rfl (by rw[Nat.zero_mul];exact (qTP.nil VS).mono (Nat.le_refl _) (Nat.zero_le _))
  obtain ⟨r3,c4,k1,k2,k3,k4⟩:=qWB e2 (n:=2) (by omega)
  rw[m1,qAA]
  simp only
  rw[e1]
  simp only[qAA,qDC,qPA]
  rw[k1,qAA]
  simp only
  rw[w64 (by omega)]
  have hb:(0+m) * N<=3 * N:=Nat.mul_le_mul_right N (by omega)
  have hal:∀ x∈List.replicate (0+m) (1:Int),x=1:=fun x hx=>(List.mem_replicate.1 hx).2
  obtain ⟨t,o1,o2⟩:=qGU (o:=7+r3) (s:=1) (kids:=l') e4 (by rw[e3,List.length_replicate]) (by omega) (by omega) (by omega) (by omega) (by
   have:r3=0\/r3=1:=by omega
   rw[List.length_replicate]
   rcases this with rfl | rfl
   ·exact qZ10 (show (0:Int)<=((0+m:Nat):Int) by omega)
   ·exact qZ10 (show (0:Int)<=((0+m:Nat):Int) by omega)) (by
   unfold qTC
   simp only[nOp]
   rw[if_neg (by omega),if_pos (by omega),if_pos hal]) (by omega)
  rw[o1,qAA]
  exact ⟨t,c4,rfl,k2,o2.mono (by omega) (by omega)⟩
 by_cases h0:r=0;· rw[qHA h0];exact hnot
 rw[qDA h0]
 by_cases h1:r=1;· rw[qHA h1];exact hnot
 rw[qDA h1]
 by_cases h2:r=2;· rw[qHA h2];exact hand
 rw[qDA h2]
 by_cases h3:r=3;· rw[qHA h3];exact hand
 rw[qDA h3]
 by_cases h4:r=4;· rw[qHA h4];exact hand
 rw[qDA h4]
 by_cases h5:r=5;· rw[qHA h5];exact hand
 rw[qDA h5]
 by_cases h6:r=6;· rw[qHA h6];exact htwo 9 (.inl rfl)
 rw[qDA h6]
 by_cases h7:r=7;· rw[qHA h7];exact (hI _ 1 n2 (by omega)).eta
 rw[qDA h7]
 by_cases h8:r=8;· rw[qHA h8];exact htwo 11 (.inr rfl)
 rw[qDA h8]
 exact (hA _ n2).eta
theorem qGal (hV:VSok VS) (hl:VS.length<=1000) {d N D:Nat} (hd:d<=1000) (hN:5<=N/\N<=10000) (hD:3<=D) (hT:TOk VS T d N D) (hF:FOk VS F (d+1) (1+3 * N) (D+1)) (hI:TOk VS I (d+1) (1+3 * N) (D+1)) (hA:AOk VS Ar (d+1) (1+3 * N) (D+1)):TOk VS (qWF T F I Ar At) (d+1) (1+3 * N) (D+1):=by
 intro c s hc hs
 have hw:qI (((d+1:Nat):Int) - 1)=(d:Int):=by rw[w64 (by omega)];omega
 unfold qWF
 rw[qNA (by omega),qIaa,qAA]
 by_cases hlf:¬ c.2 < (c.1.length:Int)
 ·rw[qZ9 hlf]
  simp only[qY1,qPA]
  exact (qLae hc hs hV hl).mono (by omega) (by omega)
 rw[qZ10 (Decidable.not_not.1 hlf)]
 simp only[qY2,qBB]
 by_cases h1:s=1
 ·rw[qHA h1,h1];exact (hF _ hc).eta
 rw[qDA h1]
 by_cases h4:s=4
 ·rw[qHA h4]
  obtain ⟨r,c1,n1,n2,n3,n4⟩:=qWB hc (n:=5) (by omega)
  rw[n1,qAA]
  simp only[hw]
  have hst:qLL VS c s (1+3 * N) (D+1) ((T c1 4 (d:Int) VS).bind fun r14=>(T r14.2.1 2 (d:Int) VS).bind fun r15=>(T r15.2.1 2 (d:Int) VS).bind fun r16=>(qNc 19 ([r14.1.1,r15.1.1,r16.1.1]:List (List Nod))).bind fun r17=>some ((r17.1.1,()),r16.2.1,())):=by
   obtain ⟨t1,c2,a1,a2,a3⟩:=hT _ 4 n2 (by omega)
   obtain ⟨t2,c3,b1,b2,b3⟩:=hT _ 2 a2 (by omega)
   obtain ⟨t3,c4,e1,e2,e3⟩:=hT _ 2 b2 (by omega)
   rw[a1,qAA,b1,qAA,e1,qAA,h4]
   obtain ⟨t,o1,o2⟩:=qGU (o:=19) (s:=4) (kids:=[t1,t2,t3]) (ss:=[4]++[2]++[2]) (by rw[qYai];exact (a3.app b3).app e3) rfl (by simp) (by omega) (by omega) (by omega) rfl (by simp[qTC,nOp]) (by omega)
   rw[o1,qAA]
   exact ⟨t,c4,rfl,e2,o2.mono (by omega) (by omega)⟩
  by_cases k0:r=0
  ·rw[qHA k0]
   obtain ⟨t1,c2,a1,a2,a3⟩:=hT _ 2 n2 (by omega)
   rw[a1,qAA,h4]
   obtain ⟨t,o1,o2⟩:=qGU (o:=20) (s:=4) (kids:=[t1]) (ss:=[2]) (by rw[qVK];exact a3) rfl (by simp) (by omega) (by omega) (by omega) rfl (by simp[qTC,nOp]) (by omega)
   rw[o1,qAA]
   exact ⟨t,c2,rfl,a2,o2.mono (by omega) (by omega)⟩
  rw[qDA k0]
  by_cases k1:r=1;· rw[qHA k1];exact hst
  rw[qDA k1]
  by_cases k2:r=2;· rw[qHA k2];exact hst
  rw[qDA k2]
  by_cases k3:r=3;· rw[qHA k3];exact (hI _ s n2 hs).eta
  rw[qDA k3]
  exact ((qVN hV hl n2 hs).eta).mono (by omega) (by omega)
 rw[qDA h4]
 exact (hA _ s hc (by omega)).eta
end
def gB:Nat->Nat
 |0=>11
 |d+1=>1+3 * gB d
theorem qSas (d:Nat):11<=gB d:=by
 induction d with
 |zero=>exact Nat.le_refl _
 |succ d ih=>simp only[gB];omega
theorem qMas:∀ {d:Nat},d<=6->gB d<=10000:=by
 intro d h
 have:d=0\/d=1\/d=2\/d=3\/d=4\/d=5\/d=6:=by omega
 rcases this with rfl | rfl | rfl | rfl | rfl | rfl | rfl<;>decide
theorem qEv {VS:List Vr} (hV:VSok VS) (hl:VS.length<=1000):∀ d,d<=5->∀ n,3 * d+3<=n->TOk VS (qVA n) d (gB d) (d+4)/\FOk VS (qUA n) d (gB d) (d+4):=by
 have hT0:∀ n,1<=n->TOk VS (qVA n) 0 5 3:=by
  intro n hn
  obtain ⟨m,rfl⟩:∃ m,n=m+1:=⟨n - 1,by omega⟩
  exact T0 (qVA m) (qUA m) (qAC m) (qRA m) (qKB m) hV hl
 have hA0:∀ n,2<=n->FOk VS (qKB n) 0 11 4:=by
  intro n hn
  obtain ⟨m,rfl⟩:∃ m,n=m+1:=⟨n - 1,by omega⟩
  exact qRz (qVA m) (qUA m) (qAC m) (qRA m) (qKB m) hV hl (by omega) (hT0 m (by omega))
 intro d
 induction d with
 |zero=>
  intro _ n hn
  refine ⟨fun c s hc hs=>(hT0 n (by omega) c s hc hs).mono (by decide) (by omega),?_⟩
  obtain ⟨m,rfl⟩:∃ m,n=m+1:=⟨n - 1,by omega⟩
  intro c hc
  have e:qUA (m+1)=qME (qVA m) (qUA m) (qAC m) (qRA m) (qKB m):=rfl
  rw[e]
  unfold qME
  rw[qIA (by omega)]
  exact (hA0 m (by omega) c hc).eta
 |succ d ih=>
  intro hd n hn
  have ih:=ih (by omega)
  have hN:=qSas d
  have hN':=qMas (d:=d) (by omega)
  have hI:∀ m,3 * d+4<=m->TOk VS (qAC m) (d+1) (1+3 * gB d) (d+4+1):=by
   intro m hm
   obtain ⟨k,rfl⟩:∃ k,m=k+1:=⟨m - 1,by omega⟩
   obtain ⟨i1,i2⟩:=ih k (by omega)
   exact qPaq (qVA k) (qUA k) (qAC k) (qRA k) (qKB k) (by omega) (by omega) i1 i2
  have hAt:∀ m,3 * d+4<=m->FOk VS (qKB m) d (1+3 * gB d) (d+4+1):=by
   intro m hm
   obtain ⟨k,rfl⟩:∃ k,m=k+1:=⟨m - 1,by omega⟩
   obtain ⟨i1,i2⟩:=ih k (by omega)
   intro c hc
   exact (qRz (qVA k) (qUA k) (qAC k) (qRA k) (qKB k) hV hl (by omega) i1 c hc).mono (by omega) (by omega)
  have hAr:∀ m,3 * d+5<=m->AOk VS (qRA m) (d+1) (1+3 * gB d) (d+4+1):=by
   intro m hm
   obtain ⟨k,rfl⟩:∃ k,m=k+1:=⟨m - 1,by omega⟩
   obtain ⟨i1,i2⟩:=ih k (by omega)
   exact qEah (qVA k) (qUA k) (qAC k) (qRA k) (qKB k) hV hl (by omega) (by omega) (by omega) i1 (hI k (by omega))
  have hFo:∀ m,3 * d+5<=m->FOk VS (qUA m) (d+1) (1+3 * gB d) (d+4+1):=by
   intro m hm
   obtain ⟨k,rfl⟩:∃ k,m=k+1:=⟨m - 1,by omega⟩
   obtain ⟨i1,i2⟩:=ih k (by omega)
   exact qFao (qVA k) (qUA k) (qAC k) (qRA k) (qKB k) (by omega) (by omega) (by omega) i2 (hI k (by omega)) (hA0 k (by omega)) (hAt k (by omega))
  have hTe:∀ m,3 * d+6<=m->TOk VS (qVA m) (d+1) (1+3 * gB d) (d+4+1):=by
   intro m hm
   obtain ⟨k,rfl⟩:∃ k,m=k+1:=⟨m - 1,by omega⟩
   obtain ⟨i1,i2⟩:=ih k (by omega)
   exact qGal (qVA k) (qUA k) (qAC k) (qRA k) (qKB k) hV hl (by omega) (by omega) (by omega) i1 (hFo k (by omega)) (hI k (by omega)) (hAr k (by omega))
  have e:d+4+1=d+1+4:=by omega
  rw[e] at hTe hFo
  exact ⟨hTe n (by omega),hFo n (by omega)⟩
end Go.AM.Num
end
section
namespace Go.AM.Num
open Tf
theorem qTX {v:SV} (h:match v with
 |.b _=>True
 |.z n=>(ti n).length<=73
 |.q r=>(txt r).length<=73
 |.a d P=>Sm 73 d P/\P.length<=75):SmallV (encS v):=by
 cases v with
 |b x=>exact ⟨⟨by simp[encS],fun s hs=>by simp[encS] at hs,fun s hs=>by simp[encS] at hs,by simp[encS]⟩,by simp[encS]⟩
 |z n=>exact ⟨⟨h,fun s hs=>by simp[encS] at hs,fun s hs=>by simp[encS] at hs,by simp[encS]⟩,by simp[encS]⟩
 |q r=>exact ⟨⟨h,fun s hs=>by simp[encS] at hs,fun s hs=>by simp[encS] at hs,by simp[encS]⟩,by simp[encS]⟩
 |a d P=>exact ⟨h.1.short,by simp only[encS];rw[qNF];exact h.2⟩
theorem qWv {c:List Int×Int} (hc:CI c) {s:Int} (hs:1<=s/\s<=4):∃ v c',qSG c s=some ((encS v,()),(c',()))/\CI c'/\qVH v=s/\okS v/\SmallV (encS v):=by
 by_cases h4:s=4
 ·obtain ⟨d,P,c',h1,h2,h3,h5,h6⟩:=qKy hc
  rw[h4]
  exact ⟨.a d P,c',h1,h2,rfl,h3,qTX (v:=.a d P) ⟨⟨by have:=h5.num;omega,fun p hp=>⟨by have:=(h5.els p hp).1;omega,by have:=(h5.els p hp).2;omega⟩,h5.few⟩,by omega⟩⟩
 unfold qSG
 by_cases h1:s=1
 ·obtain ⟨r,c',n1,n2,n3,n4⟩:=qWB hc (n:=2) (by omega)
  rw[qHA h1,n1,qAA,h1]
  exact ⟨.b (r==1),c',rfl,n2,rfl,trivial,qTX (v:=.b (r==1)) trivial⟩
 rw[qDA h1,qDA h4]
 unfold qTD
 by_cases h2:s=2
 ·obtain ⟨z,c',e1,e2,e3⟩:=qCV hc
  rw[qHA h2,e1,qAA,qAA,h2]
  exact ⟨.z z,c',rfl,e2,rfl,trivial,qTX (v:=.z z) (show (ti z).length<=73 by omega)⟩
 ·obtain ⟨q,c',e1,e2,e3⟩:=qEf hc
  have h3:s=3:=by omega
  have hl:(txt q).length<=73:=by have:=qJF q;omega
  rw[qDA h2,e1,qAA,qAA,h3]
  exact ⟨.q q,c',rfl,e2,rfl,trivial,qTX (v:=.q q) hl⟩
theorem qKq {VS:List Vr} (hV:VSok VS) (hl:VS.length<=1000):∀ (m i:Nat) (c:List Int×Int) (out:List Val),i+m=VS.length->CI c->out.length=i->(∀ j (hj:j < VS.length),j < i->∃ v,out[j]?=some (encS v)/\qVH v=VS[j].2/\okS v/\SmallV (encS v))->
 ∃ c' out',qOA qHF (c,VS,out,(i:Int),())=some (.exit 0,(c',VS,out',(VS.length:Int),()))/\CI c'/\out'.length=VS.length/\(∀ j (hj:j < VS.length),∃ v,out'[j]?=some (encS v)/\qVH v=VS[j].2/\okS v/\SmallV (encS v)):=by
 intro m
 induction m with
 |zero=>
  intro i c out hi hc ho hP
  have:i=VS.length:=by omega
  refine ⟨c,out,qWA (by unfold qHF;simp only;rw[qNA (by omega),this]) (by simp),hc,by omega,fun j hj=>hP j hj (by omega)⟩
 |succ m ih=>
  intro i c out hi hc ho hP
  have hil:i < VS.length:=by omega
  have hg:VS.getD i zVr=VS[i]:=by simp[qZ4,hil]
  have hs:=(hV.name _ (List.getElem_mem hil)).2
  obtain ⟨v,c1,h1,h2,h3,h4,h5⟩:=qWv hc hs
  obtain ⟨c',out',e1,e2,e3,e4⟩:=ih (i+1) c1 (out++[encS v]) (by omega) h2 (by simp[ho]) (fun j hj hji=>by
   by_cases e:j=i
   ·subst e
    exact ⟨v,by rw[qY9 (by omega),ho];simp,h3,h4,h5⟩
   ·obtain ⟨w,w1,w2⟩:=hP j hj (by omega)
    exact ⟨w,by rw[qY8 (by omega)];exact w1,w2⟩)
  refine ⟨c',out',?_,e2,e3,e4⟩
  rw[qAB (y:=(c1,VS,out++[encS v],((i+1:Nat):Int),())) (by
   unfold qHF
   simp only
   rw[qIA (by omega),qEA,qBA (by omega),qBA (by omega),qZ0,hg,h1,qAA,qBA (by simp[qXE];omega),w64 (by omega)]
   rfl)]
  exact e1
theorem qDah {VS:List Vr} {vals:List Val} (hl:VS.length<=1000) (hv:vals.length=VS.length):∀ (m i:Nat) (out:List qRV),i+m=VS.length->out.length=i->(∀ j (hj:j < VS.length) (hj':j < vals.length),j < i->out[j]?=some (VS[j].1,vals[j]))->
 ∃ out',qOA qQX (VS,vals,out,(i:Int),())=some (.exit 0,(VS,vals,out',(VS.length:Int),()))/\out'.length=VS.length/\(∀ j (hj:j < VS.length) (hj':j < vals.length),out'[j]?=some (VS[j].1,vals[j])):=by
 intro m
 induction m with
 |zero=>
  intro i out hi ho hP
  have:i=VS.length:=by omega
  exact ⟨out,qWA (by unfold qQX;simp only;rw[qNA (by omega),this]) (by simp),by omega,fun j hj hj'=>hP j hj hj' (by omega)⟩
 |succ m ih=>
  intro i out hi ho hP
  have hil:i < VS.length:=by omega
  have hil':i < vals.length:=by omega
  have hg:VS.getD i zVr=VS[i]:=by simp[qZ4,hil]
  have hg':vals.getD i qEK=vals[i]:=by simp[qZ4,hil']
  obtain ⟨out',e1,e2,e3⟩:=ih (i+1) (out++[(VS[i].1,vals[i])]) (by omega) (by simp[ho]) (fun j hj hj' hji=>by
   by_cases e:j=i
   ·subst e
    rw[qY9 (by omega),ho];simp
   ·rw[qY8 (by omega)];exact hP j hj hj' (by omega))
  refine ⟨out',?_,e2,e3⟩
  rw[qAB (y:=(VS,vals,out++[(VS[i].1,vals[i])],((i+1:Nat):Int),())) (by
   unfold qQX
   simp only
   rw[qIA (by omega),qEA,qBA (by omega),qBA (by omega),qEA,qBA (by omega),qBA (by omega),qZ0,hg,hg',qBA (by simp[qXE];omega),w64 (by omega)]
   rfl)]
  exact e1
structure EnvOk (VS:List Vr) (env:List qRV):Prop where
 len:env.length=VS.length
 val:∀ b∈env,qNG b.2=true/\SmallV b.2
 all:∀ v∈VS,∃ x,qNy env v.1=some x/\qVH x=v.2
theorem qUai {VS:List Vr} (hV:VSok VS) (hl:VS.length<=1000) {c:List Int×Int} (hc:CI c):∃ env c',qXN c VS=some ((env,()),(c',()))/\CI c'/\EnvOk VS env:=by
 obtain ⟨c',vals,e1,e2,e3,e4⟩:=qKq hV hl VS.length 0 c [] (by omega) hc rfl (fun j hj h=>by omega)
 obtain ⟨env,f1,f2,f3⟩:=qDah (vals:=vals) hl e3 VS.length 0 [] (by omega) rfl (fun j hj hj' h=>by omega)
 rw[show ((0:Nat):Int)=0 from rfl] at e1 f1
 refine ⟨env,c',?_,e2,f2,?_,?_⟩
 ·unfold qXN qNN qLan
  rw[e1]
  simp only[qAA,qDC,qPA]
  rw[f1]
  simp only[qAA,qDC,qPA]
 ·intro b hb
  obtain ⟨j,hj⟩:=List.getElem?_of_mem hb
  have hjl:j < env.length:=(List.getElem?_eq_some_iff.1 hj).1
  have h1:=f3 j (by omega) (by omega)
  rw[hj] at h1
  obtain ⟨v,v1,v2,v3,v4⟩:=e4 j (by omega)
  rw[qZ5 (by omega)] at v1
  simp only[Option.some.injEq] at h1 v1
  rw[h1,v1]
  exact ⟨qWf v3,v4⟩
 ·intro v hv
  obtain ⟨i,hi⟩:=List.getElem?_of_mem hv
  obtain ⟨hil,hie⟩:=List.getElem?_eq_some_iff.1 hi
  have h1:=f3 i hil (by omega)
  unfold qNy
  cases hf:env.find? (fun b=>decide (b.1=v.1)) with
  |none=>
   have:=List.find?_eq_none.1 hf _ (qY14 h1)
   simp only[decide_eq_true_eq] at this
   exact absurd (by rw[hie]) this
  |some b=>
   have hb:b.1=v.1:=by simpa using List.find?_some hf
   obtain ⟨j,hj⟩:=List.getElem?_of_mem (List.mem_of_find?_eq_some hf)
   have hjl:j < env.length:=(List.getElem?_eq_some_iff.1 hj).1
   have h2:=f3 j (by omega) (by omega)
   rw[hj] at h2
   obtain ⟨x,x1,x2,x3,x4⟩:=e4 j (by omega)
   rw[qZ5 (by omega)] at x1
   simp only[Option.some.injEq] at h2 x1
   have hn:VS[j].1=v.1:=by rw[h2] at hb;exact hb
   have:=hV.once _ (List.getElem_mem (show j < VS.length by omega)) v hv hn
   refine ⟨x,?_,by rw[x2,this]⟩
   rw[Option.bind_some,h2]
   simp only
   rw[x1,qIai x3]
def VSg:List Vr:=[([120],2),([121],2),([122],3),([119],3),([112],1),([98],1),([97],4),([99],4)]
theorem qGab:qIo=some ((VSg,()),()):=rfl
theorem qSae:VSok VSg:=by
 refine ⟨?_,?_⟩
 ·decide
 ·decide
theorem qNz:VSg.length<=1000:=by decide
theorem qMo {c:List Int×Int} (hc:CI c) {s:Int} (hs:1<=s/\s<=4) {d:Nat} (hd:d<=5):qLL VSg c s (gB d) (d+4) (qVA big c s (d:Int) VSg):=by
 obtain ⟨f,hf1,hf2⟩:=qQac
 rw[hf1]
 exact (qEv qSae qNz d hd f (by omega)).1 c s hc hs
theorem qTP.short {VS:List Vr} {ss:List Int} {N d:Nat} {l:List Nod} (h:qTP VS ss N d l):qDae l:=by
 obtain ⟨K,hK⟩:=h
 exact hK.sh
end Go.AM.Num
end
section
namespace Go.AM.Num
open Tf
theorem qPam {A:qBs->Option SV} {G:Nod->List SV->Int ⊕ SV}:∀ {f g:Tf} {vs ws:List SV},evF A G f=.inr vs->evF A G g=.inr ws->evF A G (f.app g)=.inr (vs++ws):=by
 intro f
 induction f with
 |nil=>intro g vs ws h1 h2;simp only[evF,Sum.inr.injEq] at h1;subst h1;exact h2
 |cons n k r _ ir=>
  intro g vs ws h1 h2
  rw[qMaa] at h1
  have e:(cons n k r).app g=cons n k (r.app g):=rfl
  rw[e,qMaa]
  cases he:evF A G (cons n k Tf.nil) with
  |inl e=>rw[he] at h1;cases h1
  |inr us=>
   rw[he] at h1
   cases hr:evF A G r with
   |inl e=>rw[hr] at h1;cases h1
   |inr rs=>
    rw[hr] at h1
    simp only[Sum.inr.injEq] at h1
    rw[ir hr h2]
    simp only
    rw[<-h1,qZ1]
def EvK (env:List qRV) (ss:List Int) (N d:Nat) (l:List Nod) (vs:List SV):Prop:=∃ K,GenF VSg ss N d l K/\evF (qNy env) G0 K=.inr vs
theorem EvK.mono {env:List qRV} {ss:List Int} {N d M e:Nat} {l:List Nod} {vs:List SV} (h:EvK env ss N d l vs) (hN:N<=M) (hd:d<=e):EvK env ss M e l vs:=by
 obtain ⟨K,hK,hv⟩:=h
 exact ⟨K,⟨hK.flat,hK.wf,hK.srt,hK.nz,hK.sh,by have:=hK.size;omega,by have:=hK.dep;omega,hK.vars,hK.noap⟩,hv⟩
theorem qDak {env:List qRV} (hE:EnvOk VSg env) {s:Int} {N d:Nat} {t:List Nod} (h:qTP VSg [s] N d t):∃ v,EvK env [s] N d t [v]:=by
 obtain ⟨K,hK⟩:=h
 obtain ⟨vs,hv⟩:=qXaf (A:=qNy env) (G:=G0) K (fun x hx=>hK.noap x (by rw[<-hK.flat];exact hx)) (fun x hx h4=>hE.all _ (hK.vars x (by rw[<-hK.flat];exact hx) h4))
 have hA:=qFad (env:=env) fun b hb=>(hE.val b hb).2
 obtain ⟨h1,_,_⟩:=qVB hA K hK.wf (by rw[hK.srt];exact hK.nz) (fun n hn=>hK.sh n (by rw[<-hK.flat];exact hn)) vs hv
 rw[hK.srt] at h1
 match vs,h1 with
 |[v],_=>exact ⟨v,K,hK,hv⟩
theorem EvK.nil (env:List qRV):EvK env [] 0 0 [] []:=⟨Tf.nil,⟨rfl,rfl,rfl,by simp,fun _ h=>absurd h qY16,Nat.le_refl _,Nat.le_refl _,fun _ h=>absurd h qY16,fun _ h=>absurd h qY16⟩,rfl⟩
theorem EvK.app {env:List qRV} {ss uu:List Int} {N M d:Nat} {l m:List Nod} {vs ws:List SV} (h:EvK env ss N d l vs) (g:EvK env uu M d m ws):EvK env (ss++uu) (N+M) d (l++m) (vs++ws):=by
 obtain ⟨K,hK,hv⟩:=h
 obtain ⟨L,hL,hw⟩:=g
 refine ⟨K.app L,⟨by rw[qWU,hK.flat,hL.flat],by rw[qNn,hK.wf,hL.wf];rfl,by rw[qVa,hK.srt,hL.srt],?_,?_,?_,?_,?_,?_⟩,qPam hv hw⟩
 ·rw[qZ7];exact fun h=>h.elim hK.nz hL.nz
 ·exact fun x hx=>(List.mem_append.1 hx).elim (hK.sh x) (hL.sh x)
 ·rw[qVc];have:=hK.size;have:=hL.size;omega
 ·rw[qCr];have:=hK.dep;have:=hL.dep;omega
 ·exact fun x hx=>(List.mem_append.1 hx).elim (hK.vars x) (hL.vars x)
 ·exact fun x hx=>(List.mem_append.1 hx).elim (hK.noap x) (hL.noap x)
theorem EvK.node {env:List qRV} {ss:List Int} {N d:Nat} {l:List Nod} {vs:List SV} (h:EvK env ss N d l vs) {n:Nod} {s:Int} (hf:qLC n=true) (hc:qHB (nOp n) ss.length=true) (hk:qEF n=(ss.length:Int)) (hs:qTC n (l.getD 0 qSE).1 ss=s) (hz:s≠0)
 (hnum:(qSQ n).length<=73) (hv:nOp n≠4) (ha:nOp n≠5):EvK env [s] (N+1) (d+1) (n::l) [opV n vs]:=by
 obtain ⟨K,hK,hev⟩:=h
 have hl:K.len=ss.length:=by rw[<-qDM,hK.srt]
 refine ⟨cons n K Tf.nil,⟨by simp[Tf.flat,hK.flat],qFJ.2 ⟨qHW.2 ⟨hf,by rw[hk];exact hc⟩,by rw[hl];exact hk,hK.wf,rfl⟩,?_,?_,?_,?_,?_,?_,?_⟩,?_⟩
 ·simp only[Tf.srt,hK.srt]
  rw[if_neg hK.nz,qPs hK.flat,hs]
 ·simp[Ne.symm hz]
 ·intro x hx
  rcases List.mem_cons.1 hx with rfl | hx
  ·exact hnum
  ·exact hK.sh x hx
 ·simp only[Tf.size];have:=hK.size;omega
 ·simp only[Tf.dep];have:=hK.dep;omega
 ·intro x hx
  rcases List.mem_cons.1 hx with rfl | hx
  ·exact fun h=>absurd h hv
  ·exact hK.vars x hx
 ·intro x hx
  rcases List.mem_cons.1 hx with rfl | hx
  ·exact ha
  ·exact hK.noap x hx
 ·simp only[evF,hev,evN]
  rw[if_neg hv,if_neg ha]
theorem qLW {env:List qRV} (hE:EnvOk VSg env) {s:Int} {N d:Nat} {t:List Nod} {v:SV} (h:EvK env [s] N d t [v]) (hN:N<=1100) (hd:d<=257):qIQ t env []=some ((encS v,0,()),())/\qVH v=s/\okS v/\Bdd (80 * N) v/\VT t h.choose:=by
 have hc:=h.choose_spec
 generalize h.choose=K at hc
 obtain ⟨hK,hv⟩:=hc
 have hvt:=qKak qSae hK (by omega) hd
 have hsm:∀ b∈env,SmallV b.2:=fun b hb=>(hE.val b hb).2
 have hA:=qFad (env:=env) hsm
 obtain ⟨h1,h2,h3⟩:=qVB hA K hK.wf (by rw[hK.srt];exact hK.nz) (fun n hn=>hK.sh n (by rw[<-hK.flat];exact hn)) [v] hv
 rw[hK.srt] at h1
 have hl:t.length<=1100:=by rw[<-hK.flat,qXD];have:=hK.size;omega
 have hel:env.length<=1000000000:=by rw[hE.len];decide
 have hS:=qPu (env:=env) (fun b hb=>(hE.val b hb).1) hvt
 rw[hv] at hS
 refine ⟨?_,by simpa using h1,h2 v (by simp),(h3.mem v (by simp)).mono (by have:=hK.size;omega),hvt⟩
 rw[qGae hK.sh hl hsm hel,hS]
theorem evk_holds {env:List qRV} (hE:EnvOk VSg env) {N d:Nat} {t:List Nod} {v:SV} (h:EvK env [1] N d t [v]) (hN:N<=1100) (hd:d<=257):qFe t env []=some ((isT v,()),()):=by
 obtain ⟨h1,h2,_⟩:=qLW hE h hN hd
 unfold qFe
 rw[h1,qAA,qHA rfl]
 simp only
 rw[qLV,h2,qHA rfl,qXU]
end Go.AM.Num
end
section
namespace Go.AM.Num
open Tf
theorem qXZ (o:Int) (ts:List (List Nod)) (hl:ts.length<=1000) (hb:ts.flatten.length<=90000):qUO (o,(0:Int),([]:qBs),([]:qBs),(0:Int)) ts=some (((o,0,[],[],(ts.length:Int))::ts.flatten,()),()):=qVW hl hb
theorem EvK.op {env:List qRV} {ss:List Int} {N d:Nat} {ts:List (List Nod)} {vs:List SV} {o s:Int} (h:EvK env ss N d ts.flatten vs) (hl:ts.length=ss.length) (h1:1<=o/\o<=20) (h':o≠3/\o≠4/\o≠5/\o≠16/\o≠17)
 (hc:qHB o ss.length=true) (hs:qTC ((o,0,[],[],(ss.length:Int)):Nod) (ts.flatten.getD 0 qSE).1 ss=s) (hz:s≠0):EvK env [s] (N+1) (d+1) ((o,0,[],[],(ts.length:Int))::ts.flatten) [opV (o,0,[],[],(ts.length:Int)) vs]:=by
 have e:((ts.length:Nat):Int)=(ss.length:Int):=by rw[hl]
 rw[e]
 exact h.node (qRX h1 h') hc rfl hs hz (by simp[qSQ]) h'.2.1 h'.2.2.1
end Go.AM.Num
end
section
namespace Go.AM.Num
open Tf
theorem qIan {p q r:Rat} (hp:D p<=100000) (hq:D q<=100000) (hr:D r<=100000):qSag [txt p,txt q,txt r]=some ((txt (0+p+q+r),()),()):=by
 have d0:D (0:Rat)<=21:=qUap
 have d1:=qVaf 0 p
 have d2:=qVaf (0+p) q
 have s1:qTL (txt 0,[txt p,txt q,txt r],((3:Nat):Int),((0:Nat):Int),())=some (.normal,(txt (0+p),[txt p,txt q,txt r],((3:Nat):Int),((1:Nat):Int),())):=by
  unfold qTL
  simp only
  rw[qIA (by omega),qEA,qBA (by omega),qBA (by simp),qZ0,qZ3,qBaj (by omega) (by omega),qAA,w64 (by omega)]
  rfl
 have s2:qTL (txt (0+p),[txt p,txt q,txt r],((3:Nat):Int),((1:Nat):Int),())=some (.normal,(txt (0+p+q),[txt p,txt q,txt r],((3:Nat):Int),((2:Nat):Int),())):=by
  unfold qTL
  simp only
  rw[qIA (by omega),qEA,qBA (by omega),qBA (by simp),qZ0,qZ2,qZ3,qBaj (by omega) (by omega),qAA,w64 (by omega)]
  rfl
 have s3:qTL (txt (0+p+q),[txt p,txt q,txt r],((3:Nat):Int),((2:Nat):Int),())=some (.normal,(txt (0+p+q+r),[txt p,txt q,txt r],((3:Nat):Int),((3:Nat):Int),())):=by
  unfold qTL
  simp only
  rw[qIA (by omega),qEA,qBA (by omega),qBA (by simp),qZ0,qZ2,qZ2,qZ3,qBaj (by omega) (by omega),qAA,w64 (by omega)]
  rfl
 have hl:qOA qTL (([48]:qBs),[txt p,txt q,txt r],((([txt p,txt q,txt r]:List qBs).length:Nat):Int),0,())=some (.exit 0,(txt (0+p+q+r),[txt p,txt q,txt r],((3:Nat):Int),((3:Nat):Int),())):=by
  rw[<-txt_zero]
  have e:qOA qTL (txt 0,[txt p,txt q,txt r],((3:Nat):Int),((0:Nat):Int),())=some (.exit 0,(txt (0+p+q+r),[txt p,txt q,txt r],((3:Nat):Int),((3:Nat):Int),())):=by
   rw[qAB s1,qAB s2,qAB s3]
   exact qWA (by unfold qTL;simp only;rw[qNA (by omega)]) (by simp)
  exact e
 unfold qSag
 rw[hl]
 simp only[qAA,qDC,qPA]
theorem qQaa (l m:List Int):qTI l m=some ((true,()),()):=by
 obtain ⟨c1,n1,hc1⟩:=qRs l
 obtain ⟨c2,n2,hc2⟩:=qRs m
 obtain ⟨env,c4,e1,e2,hE⟩:=qUai qSae qNz hc2
 obtain ⟨a,c5,a1,a2,a3⟩:=qMo hc1 (s:=2) (by omega) (d:=2) (by omega)
 obtain ⟨b,c6,b1,b2,b3⟩:=qMo a2 (s:=2) (by omega) (d:=2) (by omega)
 obtain ⟨k,c7,k1,k2,k3⟩:=qCV b2
 obtain ⟨r,c8,r1,r2,r3,r4⟩:=qWB k2 (n:=9) (by omega)
 have a1':qVA big c1 2 2 VSg=some ((a,()),(c5,())):=a1
 have b1':qVA big c5 2 2 VSg=some ((b,()),(c6,())):=b1
 have hB:gB 2=103:=rfl
 rw[hB] at a3 b3
 obtain ⟨x,hx⟩:=qDak hE a3
 obtain ⟨y,hy⟩:=qDak hE b3
 obtain ⟨x1,x2,x3,x4,_⟩:=qLW hE hx (by omega) (by omega)
 obtain ⟨y1,y2,y3,y4,_⟩:=qLW hE hy (by omega) (by omega)
 obtain ⟨p,rfl⟩:∃ p,x=.z p:=⟨_,(qGP x2).1⟩
 obtain ⟨q,rfl⟩:∃ q,y=.z q:=⟨_,(qGP y2).1⟩
 have hp:Ht (80 * 103) (p:Rat):=x4
 have hq:Ht (80 * 103) (q:Rat):=y4
 have dp:=hp.D
 have dq:=hq.D
 have hal:a.length<=103:=a3.len
 have hbl:b.length<=103:=b3.len
 have hd:0 < 1+r/\1+r < 1000:=by omega
 have hdl:D ((1+r:Int):Rat)<=21:=qWR (by omega)
 have hdt:(ti (1+r)).length<=73:=by have:=qJF ((1+r:Int):Rat);unfold ti;omega
 have hkd:D ((k:Int):Rat)<=53:=by have:=D_le ((k:Int):Rat);unfold ti at k3;omega
 have hsum:=EvK.op (ts:=[a,b,a]) (ss:=[2]++[2]++[2]) (o:=14) (s:=2) (by rw[qYai];exact (hx.app hy).app hx) rfl (by omega) (by omega) rfl (by simp[qTC,nOp]) (by omega)
 have hkx:EvK env [2] 1 6 [((3:Int),(2:Int),([]:qBs),ti k,(0:Int))] [.z k]:=by
  have:=((EvK.nil env).node (n:=((3:Int),(2:Int),([]:qBs),ti k,(0:Int))) (s:=2) (by simp[qLC,nOp,qQF,qAO,qSQ,qUV]) rfl rfl (by simp[qTC,nOp,qQF]) (by omega) (by simp only[qSQ];omega) (by simp[nOp]) (by simp[nOp])).mono (Nat.le_refl _) (show 0+1<=6 by omega)
  have e:opV ((3:Int),(2:Int),([]:qBs),ti k,(0:Int)) []=.z k:=by
   have hn:qMc (((3:Int),(2:Int),([]:qBs),ti k,(0:Int)):Nod)=((k:Int):Rat):=by unfold qMc ti;simp only[qSQ];rw[qOK];rfl
   unfold opV
   simp only[nOp,qQF]
   rw[if_neg (by omega),if_neg (by omega),if_neg (by omega),if_neg (by omega),if_neg (by omega),if_neg (by omega),if_neg (by omega),if_neg (by omega),if_pos trivial,hn]
   unfold qVl
   rw[if_pos rfl,Rat.num_intCast]
  rw[e] at this
  exact this
 have hmul:=EvK.op (ts:=[[((3:Int),(2:Int),([]:qBs),ti k,(0:Int))],a]) (ss:=[2]++[2]) (o:=15) (s:=2) (by rw[qSK];exact hkx.app hx) rfl (by omega) (by omega) rfl (by simp[qTC,nOp]) (by omega)
 have hsg:qSW (ti (1+r))=1:=by
  unfold qSW ti
  rw[qOK]
  simp only[Rat.num_intCast]
  exact Int.sign_eq_one_of_pos hd.1
 have hdm:∀ o:Int,o=16\/o=17->EvK env [2] (103+1) 7 ((o,0,[],ti (1+r),1)::a) [opV (o,0,[],ti (1+r),1) [.z p]]:=fun o ho=>
  hx.node (n:=(o,0,[],ti (1+r),1)) (s:=2) (by
   unfold qLC
   simp only[nOp,qQF,qAO,qSQ]
   rw[if_neg (by omega),if_neg (by omega),if_pos ho,qUV,hsg]
   rfl) (by rcases ho with rfl | rfl<;>rfl) rfl (by rcases ho with rfl | rfl<;>simp[qTC,nOp]) (by omega) hdt (by simp only[nOp];omega) (by simp only[nOp];omega)
 have hle:=EvK.op (ts:=[a,b]) (ss:=[2]++[2]) (o:=12) (s:=1) (by rw[qSK];exact hx.app hy) rfl (by omega) (by omega) rfl (by simp[qTC,nOp]) (by omega)
 have hlt:=EvK.op (ts:=[a,b]) (ss:=[2]++[2]) (o:=13) (s:=1) (by rw[qSK];exact hx.app hy) rfl (by omega) (by omega) rfl (by simp[qTC,nOp]) (by omega)
 have vsum:=(qLW hE hsum (by omega) (by omega)).1
 have vmul:=(qLW hE hmul (by omega) (by omega)).1
 have vdiv:=(qLW hE (hdm 16 (.inl rfl)) (by omega) (by omega)).1
 have vmod:=(qLW hE (hdm 17 (.inr rfl)) (by omega) (by omega)).1
 have vle:=evk_holds hE hle (by omega) (by omega)
 have vlt:=evk_holds hE hlt (by omega) (by omega)
 have hnn:∀ o:Int,qMc ((o,0,[],ti (1+r),1):Nod)=((1+r:Int):Rat):=fun o=>by unfold qMc ti;simp only[qSQ];rw[qOK];rfl
 have iz:∀ n:Int,intV (.z n)=n:=fun n=>by unfold intV qDT;exact Rat.num_intCast n
 have tsum:(encS (opV (14,0,[],[],(([a,b,a]:List (List Nod)).length:Int)) ([.z p]++[.z q]++[.z p]))).2.2.1=txt (0+(p:Rat)+(q:Rat)+(p:Rat)):=by
  have e:opV (14,0,[],[],(([a,b,a]:List (List Nod)).length:Int)) ([.z p]++[.z q]++[.z p])=qVl 2 (0+(p:Rat)+(q:Rat)+(p:Rat)):=rfl
  have hden:(0+(p:Rat)+(q:Rat)+(p:Rat)).den=1:=qXz [.z p,.z q,.z p] 0 rfl (fun v hv=>by simp at hv;rcases hv with rfl | rfl | rfl<;>rfl)
  rw[e,qWX (.inl rfl) fun _=>hden]
 have tmul:(encS (opV (15,0,[],[],(([[((3:Int),(2:Int),([]:qBs),ti k,(0:Int))],a]:List (List Nod)).length:Int)) ([.z k]++[.z p]))).2.2.1=txt ((k:Rat) * (p:Rat)):=by
  have e:opV (15,0,[],[],(([[((3:Int),(2:Int),([]:qBs),ti k,(0:Int))],a]:List (List Nod)).length:Int)) ([.z k]++[.z p])=qVl 2 ((k:Rat) * (p:Rat)):=rfl
  rw[e,qWX (.inl rfl) fun _=>by rw[<-Rat.intCast_mul,Rat.den_intCast]]
 have tdiv:(encS (opV (16,0,[],ti (1+r),1) [.z p])).2.2.1=ti (p / (1+r)):=by
  have e:opV (16,0,[],ti (1+r),1) [.z p]=.z (p / (1+r)):=by
   unfold opV
   simp only[nOp]
   rw[if_neg (by omega),if_neg (by omega),if_neg (by omega),if_neg (by omega),if_neg (by omega),if_neg (by omega),if_neg (by omega),if_neg (by omega),if_neg (by omega),if_neg (by omega),if_neg (by omega),if_pos trivial,hnn,Rat.num_intCast,qZ3,iz]
  rw[e];rfl
 have tmod:(encS (opV (17,0,[],ti (1+r),1) [.z p])).2.2.1=ti (p % (1+r)):=by
  have e:opV (17,0,[],ti (1+r),1) [.z p]=.z (p % (1+r)):=by
   unfold opV
   simp only[nOp]
   rw[if_neg (by omega),if_neg (by omega),if_neg (by omega),if_neg (by omega),if_neg (by omega),if_neg (by omega),if_neg (by omega),if_neg (by omega),if_neg (by omega),if_neg (by omega),if_neg (by omega),if_neg (by omega),if_pos trivial,hnn,Rat.num_intCast,qZ3,iz]
  rw[e];rfl
 have ole:isT (opV (12,0,[],[],(([a,b]:List (List Nod)).length:Int)) ([.z p]++[.z q]))=decide ((p:Rat)<=(q:Rat)):=by
  unfold opV;simp[nOp,isT,qDT]
 have olt:isT (opV (13,0,[],[],(([a,b]:List (List Nod)).length:Int)) ([.z p]++[.z q]))=decide ((p:Rat) < (q:Rat)):=by
  unfold opV;simp[nOp,isT,qDT]
 have xp:(encS (.z p)).2.2.1=txt (p:Rat):=rfl
 have yq:(encS (.z q)).2.2.1=txt (q:Rat):=rfl
 unfold qTI
 rw[n1,qAA,n2,qAA,qGab,qAA]
 simp only
 rw[e1,qAA,qAA]
 simp only
 rw[a1',qAA,qAA]
 simp only
 rw[b1',qAA]
 simp only
 rw[k1,qAA]
 simp only
 rw[r1,qAA]
 simp only
 rw[w64 (by omega),qVG (show qVu (1+r) from ⟨by omega,by omega⟩),qAA,x1,qAA,y1,qAA,qDE rfl,qDE rfl]
 rw[qXZ 14 [a,b,a] (by simp) (by rw[qYai];simp only[qZ6];omega),qAA]
 simp only
 rw[vsum,qAA]
 unfold qBM
 rw[qAA]
 simp only
 rw[qXZ 15 [[((3:Int),(2:Int),([]:qBs),ti k,(0:Int))],a] (by simp) (by rw[qSK];simp only[qZ6,qY11,List.length_nil];omega),qAA]
 simp only
 rw[vmul,qAA]
 have j16:=qVW (n:=((16:Int),(0:Int),([]:qBs),ti (1+r),(0:Int))) (kids:=[a]) (by simp) (by rw[qVK];omega)
 have j17:=qVW (n:=((17:Int),(0:Int),([]:qBs),ti (1+r),(0:Int))) (kids:=[a]) (by simp) (by rw[qVK];omega)
 rw[qVK] at j16 j17
 have et:txt ((1+r:Int):Rat)=ti (1+r):=rfl
 rw[et,j16,qAA]
 simp only
 have vdiv':qIQ (((16:Int),(0:Int),([]:qBs),ti (1+r),(([a]:List (List Nod)).length:Int))::a) env []=some ((encS (opV (16,0,[],ti (1+r),1) [.z p]),0,()),()):=vdiv
 have vmod':qIQ (((17:Int),(0:Int),([]:qBs),ti (1+r),(([a]:List (List Nod)).length:Int))::a) env []=some ((encS (opV (17,0,[],ti (1+r),1) [.z p]),0,()),()):=vmod
 rw[vdiv',qAA,j17,qAA]
 simp only
 rw[vmod',qAA,xp,yq,qIan (by omega) (by omega) (by omega),qAA,tsum]
 simp only[beq_self_eq_true,qPA]
 unfold ti
 rw[qFar (by omega) (by omega),qAA]
 unfold ti at tmul
 rw[tmul]
 simp only[beq_self_eq_true,qPA]
 rw[qLaq (by omega) (by omega) (by omega),qAA]
 unfold ti at tdiv
 rw[tdiv]
 simp only[beq_self_eq_true,qPA]
 rw[qQaq (by omega) (by omega) (by omega),qAA]
 unfold ti at tmod
 rw[tmod]
 simp only[beq_self_eq_true,qPA]
 rw[qXZ 12 [a,b] (by simp) (by rw[qSK,qZ6];omega),qAA]
 simp only
 rw[vle,ole,qAA,qEao (by omega) (by omega),qAA]
 have ele:decide (((p:Rat) - (q:Rat)).num.sign<=0)=decide ((p:Rat)<=(q:Rat)):=by rw[decide_eq_decide];exact qIak _ _
 have elt:decide (((p:Rat) - (q:Rat)).num.sign < 0)=decide ((p:Rat) < (q:Rat)):=by rw[decide_eq_decide];exact qTak _ _
 simp only
 rw[ele]
 simp only[beq_self_eq_true,qPA]
 rw[qXZ 13 [a,b] (by simp) (by rw[qSK,qZ6];omega),qAA]
 simp only
 rw[vlt,olt,qAA,qAA]
 simp only
 rw[elt]
 simp only[beq_self_eq_true,qPA]
 rw[qGy,qAA]
end Go.AM.Num
end
section
namespace Go.AM.Num
open Go.Proofs Go.Proofs.YtmckcoeongfmhaaGreatDoor
theorem gPow : Tryz.prog.globalNamed "internal/strconv.uint64pow10" = some 0 := by kernel_rfl
theorem tPow:(Tryz.prog.globals[0]?).map (·.type)=some 313:=by kernel_rfl
theorem qHap {W:World} (h:W.ShapedOpen Tryz.prog):∃ m,W.cell? ⟨1,0,none⟩=some (.int .i64 m):=
 cell_of_shapedOpen_int (t:=3) (zero:=#[.int .i64 0]) h (of_decide_eq_true (by kernel_rfl)) (by kernel_rfl) rfl (by kernel_rfl) (by kernel_rfl) Tryz.underlying3
theorem qEas {W:World} (hL:laidMetH Tryz.prog Rows.valueZeroRow.laid W) (hsh:W.ShapedOpen Tryz.prog):GN W:=by
 rw[MakeChecks.laidMetH_plain _ _ _ (by kernel_rfl)] at hL
 obtain ⟨ps,⟨g0,t0,cs0,f0,p0,q0,hg0,ht0,hv0,hd0,⟨g1,t1,cs1,f1,p1,q1,hg1,ht1,hv1,hd1,⟨g2,t2,cs2,f2,p2,q2,hg2,ht2,hv2,hd2,_⟩,_⟩,_⟩,_⟩:=hL
 obtain rfl:=Option.some.inj (gPow.symm.trans hg2)
 obtain rfl:=Option.some.inj (tPow.symm.trans ht2)
 refine ⟨qHap hsh,?_⟩
 have e:(Rows.laid_internal_strconv_uint64pow10:DataW Unit)=Lib.tabData .u64 Lib.pow10Tab:=by kernel_rfl
 rw[e] at hd2
 unfold Lib.TabIs
 rw[hv2,<-Lib.cells_of_tab Tryz.underlying313 Tryz.underlying231 (by kernel_rfl) (by kernel_rfl) hd2]
theorem qXam {w w':World} (h:GN w) (hb:∀ B,B < 2->w'.heap[B]?=w.heap[B]?):GN w':=by
 have hc:∀ B o,B < 2->w'.cell? ⟨B,o,none⟩=w.cell? ⟨B,o,none⟩:=fun B o hB=>by simp[World.cell?,hb B hB]
 refine ⟨?_,?_⟩
 ·rw[hc _ 0 (by decide)];exact h.maxLen
 ·have:=h.pow10
  unfold Lib.TabIs World.var? at this ⊢
  rw[gPow] at this ⊢
  simp only[Option.bind_some] at this ⊢
  rw[hb _ (by decide)]
  exact this
theorem qTao {w:World} (h:GN w):2<=w.heap.size:=by
 obtain ⟨m,hm⟩:=h.maxLen
 exact World.block_lt_of_cell? w ⟨1,0,none⟩ hm
end Go.AM.Num
end
section
namespace Go.AM.Num
open Go.Proofs
noncomputable def VN:Env where
 P:=Tryz.prog
 gb:=2
 G:=GN
 keep:=fun w w' h _ hb=>qXam h hb
 mixed:=by kernel_rfl
theorem f0:Fs Tryz.prog VN l0:=
 (((((((((((⟨rfl,qOas⟩:Fs Tryz.prog VN []).cons (qET rfl)).cons (qRR rfl (fun _ h=>h))).cons (qLU rfl)).cons (qQc rfl (fun _ h=>h))).cons (qUS rfl (fun _ h=>h))).cons (qGa rfl)).cons (qVX rfl)).cons (qDY rfl)).cons (qJW rfl)).cons (qBT rfl))
end Go.AM.Num
end
section
namespace Go.AM.Num
open Go.Proofs Go.Proofs.YtmckcoeongfmhaaGreatDoor Go.RowKit Go.ChangeShapes Go.WideShapes Go.ChangeAt
theorem qAae {k:FuncId} {ps:List PK} {g:qUG ps->Option (qUG [.val .bool]×qAf ps)} (hG:Good VN k ⟨ps,[.val .bool],g⟩) (x:qUG ps) (hin:qOB ps x=[]) (hk:cntK ps=0) (o:qAf ps) (hx:g x=some ((true,()),o))
 (W:World) (hW:GN W) (vs:Array Value) (ha:RelL (rdW W) (fun B=>B < W.heap.size) (fun _=>none) (qLB ps x 0 0) vs.toList) :
 Calls Tryz.prog k vs W fun e w'=>e=.returned (.bool true)/\Below W.heap.size W w':=by
 refine Calls.mono (hG.spec x _ o hx W (fun B=>B < W.heap.size) (fun _=>none) vs hW (qTao hW) ?_ ?_) ?_
 ·rw[hin];exact qAan fun _ h=>h
 ·rw[hk];exact ha
 ·rintro e w' ⟨us,I',β',rfl,hf,_,hr⟩
  obtain rfl:us=[.bool true]:=by
   have:qIS ps [.val .bool] (true,())=[.bool true]:=rfl
   rw[this] at hr
   simp only[RelL,RelV] at hr
   obtain ⟨u,us',rfl,rfl,rfl⟩:=hr
   rfl
  refine ⟨rfl,hf.os,hf.tape,hf.output,hf.size,fun B hB=>hf.block B hB ?_⟩
  rw[hin]
  exact qPR B
def IL (l:List Int):Prop:=l.length<=9223372036854775807/\∀ x∈l,qVu x
theorem qOam {n:Int} (h:(Lit.int .i64 n).wf=true):qVu n:=by
 simp only[Lit.wf,qY0,decide_eq_true_eq] at h
 exact h
theorem qQar {l:List Int} (h:l.length<=maxLen) (hw:∀ x∈l,(Lit.int .i64 x).wf=true):IL l:=⟨by unfold maxLen at h;omega,fun x hx=>qOam (hw x hx)⟩
section
variable {H:Type} {enc:TypeId×Value->H} {W:World} {I:Nat->Prop} {rd:Nat->Nat->Option Value} {β:Nat->Option Place}
theorem qTaq:RelL rd I β (qLB [] () 0 0) []:=by simp only[qLB,RelL]
theorem qLab {t:GT} {ps:List PK} {x:t.ty} {y:qUG ps} {v:Value} {vs:List Value} (h:RelV rd I β (Go.AM.enc t x) v) (r:RelL rd I β (qLB ps y 0 0) vs):RelL rd I β (qLB (.val t::ps) (x,y) 0 0) (v::vs):=by
 simp only[qLB,RelL]
 exact ⟨v,vs,rfl,h,r⟩
theorem qWal (a:Addr) (i:Nat) (h:a.spot=none):a.add i=⟨a.block,a.off+i,none⟩:=by
 obtain ⟨b,o,s⟩:=a
 simp only at h;subst h
 simp[Addr.add]
theorem qIae {t e:TypeId} {k:IntKind} {a:Option Addr} {len cap:Nat} {d:DataW H} {p:List MemPlace} (ht:Tryz.prog.underlying t=some (.slice e)) (he:Tryz.prog.underlying e=some (.int k)) (hc:Tryz.prog.cellsOf e=1) (h:DataW.Trod enc Tryz.prog W 0 (fun _=>true) true t (.slice a len cap) d p) :
 ∃ l:List Int,l.length=len/\len<=maxLen/\(∀ x∈l,(Lit.int k x).wf=true)/\TV (rdW W) (fun B=>B < W.heap.size) (.sl (.int k)) l (.slice a len cap):=by
 obtain ⟨fuel,hf⟩:=h
 rcases open_ints ht he hc hf with ⟨hcs,_⟩ | ⟨x,l,c,zs,hcs,_,hl,hm,hz,_,hcell,hwz⟩
 ·simp[Value.cells] at hcs
  obtain ⟨rfl,rfl,rfl⟩:=hcs
  refine ⟨[],rfl,Nat.zero_le _,by simp,?_⟩
  simp only[TV,GT.isAgg,RelC]
  exact ⟨none,0,rfl,Nat.le_refl _,fun h=>absurd rfl h⟩
 ·simp[Value.cells] at hcs
  obtain ⟨rfl,rfl,rfl⟩:=hcs
  simp only[if_true] at hz
  have hzl:zs.length=cap:=by simpa using hz
  refine ⟨zs.take len,by simp;omega,by omega,fun y hy=>hwz y (List.mem_of_mem_take hy),?_⟩
  have hg:∀ i,i < zs.length->W.cell? (x.add i)=some (.int k (zs.getD i 0)):=hcell
  simp only[TV,GT.isAgg,RelC]
  refine ⟨some x,cap,by simp;omega,by simp;omega,fun hne=>?_⟩
  have hpos:0 < zs.length:=by
   have:zs.take len≠[]:=hne
   rcases zs with _ | ⟨z,zs⟩
   ·simp at this
   ·simp
  have hspot:x.spot=none:=by simpa [Addr.add] using World.cell?_spot (hg 0 hpos)
  have hat:∀ i,i < zs.length->W.cell? ⟨x.block,x.off+i,none⟩=some (.int k (zs.getD i 0)):=fun i hi=>by
   rw[<-qWal x i hspot];exact hg i hi
  refine ⟨x.block,x.off,by obtain ⟨b,o,s⟩:=x;simp only at hspot;subst hspot;rfl,World.block_lt_of_cell? W ⟨x.block,x.off+0,none⟩ (hat 0 hpos),fun i z hi=>?_⟩
  have hi1:i < zs.length:=by
   have:=(List.getElem?_eq_some_iff.1 hi).1
   simp at this;omega
  have hzi:zs.getD i 0=z:=by
   rw[List.getElem?_take] at hi
   split at hi
   ·rw[qZ4,hi];rfl
   ·cases hi
  refine ⟨[.int k z],rfl,fun j hj=>?_,rfl⟩
  have:j=0:=by simp[GT.cells] at hj;omega
  subst this
  have:=hat i hi1
  rw[hzi] at this
  have h2:=qDf this rfl
  simpa [GT.cells] using h2
end
end Go.AM.Num
end
section
namespace Go.AM.Num
open Go.Proofs Go.Proofs.YtmckcoeongfmhaaGreatDoor Go.RowKit Go.ChangeShapes Go.WideShapes Go.ChangeAt
noncomputable def qLT (os:Os):World:=
 { World.doorLaid Tryz.prog 400 os with heap:=(World.doorLaid Tryz.prog 400 os).heap.modify 6 fun
  |.cells _ t frozen=>.cells (Go.Pinned.utf8FirstZ.map fun n=>Value.int .u8 (n:Nat)).toArray t frozen
  |o=>o }
set_option maxRecDepth 100000 in
theorem qBah (os:Os) (args:Array Value):laidMet Tryz.prog Rows.valueZeroRow.laid ((qLT os).forCall (fun _ _=>0) ⟨#[],args,[]⟩).memory:=
 laidMet_of_run' 8 (by kernel_rfl) (by kernel_rfl)
theorem qRaj (os:Os) (args:Array Value):(((qLT os).forCall (fun _ _=>0) ⟨#[],args,[]⟩).variablesRefB Tryz.prog)=true:=by kernel_rfl
theorem qDaa (os:Os) (args:Array Value):((((qLT os).forCall (fun _ _=>0) ⟨#[],args,[]⟩).heap.toList.drop Tryz.prog.globals.size).take ((begin Tryz.prog (fun _ _=>0) default).world.heap.size - Tryz.prog.globals.size) =
 (begin Tryz.prog (fun _ _=>0) default).world.heap.toList.drop Tryz.prog.globals.size):=by kernel_rfl
theorem own:ownKnob Tryz.prog.godebug=none:=by kernel_rfl
theorem qMab:laidOutB Tryz.prog=true:=by kernel_rfl
end Go.AM.Num
end
section
set_option linter.unusedVariables false
namespace Go.AM.Num
theorem qMb (l:List Int) (hl:IL l) (m:List Int) (hm:IL m):qTI l m=some ((true,()),()):=qQaa l m
end Go.AM.Num
end
