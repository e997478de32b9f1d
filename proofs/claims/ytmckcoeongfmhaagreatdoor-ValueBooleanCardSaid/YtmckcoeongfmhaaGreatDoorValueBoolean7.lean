/- Law ValueBoolean of the values: a machine of plain values, what the program's functions compute in it, and what that is. No condition beyond what the statement says. -/
import Derived.Test.YtmckcoeongfmhaaGreatDoorValueBoolean6
import Derived.Test.YtmckcoeongfmhaaGreatDoorValueBoolean3
import Derived.Test.YtmckcoeongfmhaaGreatDoorValueBoolean5
import Derived.Test.YtmckcoeongfmhaaGreatDoorRows
import Derived.Shelf.Vars
import Derived.Lib.LaidTab
import Derived.ProofKit
import Derived.MakeChecks
import Derived.OpenShut
import Derived.Lib.Strings
import Derived.SliceStrings
import Derived.SizedLaws
import Derived.Test.YtmckcoeongfmhaaGreatDoorCards
import Derived.Test.YtmckcoeongfmhaaGreatDoorTie
import Derived.ShutString
import Derived.ChangeOld
import Derived.Below
import Derived.LaidMore
import Derived.Deep.DeepHandedRow
import Derived.Deep.DeepWitnessRowRef
import GoSem.PinnedTables
set_option linter.unusedSimpArgs false
set_option linter.unusedVariables false
section
namespace Go.AM.Num
theorem qSL {α:Type} (s:qBs) (x:α):∀ l,qLD s (qWa s x l)=some x:=by
 intro l
 induction l with
 |nil=>simp[qWa,qLD]
 |cons a l ih=>
  obtain ⟨k,y⟩:=a
  simp only[qWa]
  by_cases h:k=s
  ·rw[show (k==s)=true by simpa using h];simp[qLD,h]
  ·have hk:(k==s)=false:=by simpa using h
   rw[hk];simp[qLD,hk,ih]
theorem qRP {α:Type} {s t:qBs} (h:t≠s) (x:α):∀ l,qLD t (qWa s x l)=qLD t l:=by
 intro l
 have h2:(s==t)=false:=by simpa using fun e=>h e.symm
 induction l with
 |nil=>simp[qWa,qLD,h2]
 |cons a l ih=>
  obtain ⟨k,y⟩:=a
  simp only[qWa]
  by_cases hk:k=s
  ·subst hk;simp[qLD,h2]
  ·rw[show (k==s)=false by simpa using hk]
   simp only[qVA,qLD,ih]
namespace Tf
def subs:Tf->List (Nod×Tf)
 |nil=>[]
 |cons n k r=>(n,k)::(subs k++subs r)
theorem qBY (f:Tf):f.subs.length=f.size:=by
 induction f with
 |nil=>rfl
 |cons n k r ik ir=>simp only[subs,size,qY11,qZ6,ik,ir]
theorem qCak (f:Tf):∀ (o p:Nat),p < f.size->∃ n k x rest rest2,f.subs[p]?=some (n,k)/\f.flat.drop p=n::(k.flat++rest)/\(info o f).drop p=x::(info (o+p+1) k++rest2):=by
 induction f with
 |nil=>intro o p h;simp[size] at h
 |cons n k r ik ir=>
  intro o p h
  cases p with
  |zero=>exact ⟨n,k,((if 0∈srt k then 0 else qXC n (op1 k) (srt k)),((dep k+1:Nat):Int),((o+1+size k:Nat):Int)),flat r,info (o+1+size k) r,rfl,rfl,rfl⟩
  |succ p=>
   simp only[size] at h
   by_cases hp:p < k.size
   ·obtain ⟨n',k',x,rest,rest2,h1,h2,h3⟩:=ik (o+1) p hp
    refine ⟨n',k',x,rest++r.flat,rest2++info (o+1+k.size) r,?_,?_,?_⟩
    ·simp only[subs,List.getElem?_cons_succ]
     rw[qY8 (by rw[qBY];exact hp)]
     exact h1
    ·simp only[flat,List.drop_succ_cons]
     rw[List.drop_append_of_le_length (by rw[qVD];omega),h2]
     simp
    ·simp only[info,List.drop_succ_cons]
     rw[List.drop_append_of_le_length (by rw[qWJ];omega),h3]
     have e:o+1+p+1=o+(p+1)+1:=by omega
     simp[e]
   ·obtain ⟨n',k',x,rest,rest2,h1,h2,h3⟩:=ir (o+1+k.size) (p - k.size) (by omega)
    refine ⟨n',k',x,rest,rest2,?_,?_,?_⟩
    ·simp only[subs,List.getElem?_cons_succ]
     rw[qY9 (by rw[qBY];omega),qBY]
     exact h1
    ·simp only[flat,List.drop_succ_cons]
     rw[List.drop_append,qVD,qY7 (by rw[qVD];omega),h2]
     rfl
    ·simp only[info,List.drop_succ_cons]
     rw[List.drop_append,qWJ,qY7 (by rw[qWJ];omega),h3]
     have e:o+1+k.size+(p - k.size)+1=o+(p+1)+1:=by omega
     simp[e]
theorem qAak {f:Tf} (hw:f.wf=true) (hs:(0:Int)∉f.srt):∀ {n:Nod} {k:Tf},(n,k)∈f.subs->okN n=true/\qEF n=(k.len:Int)/\k.wf=true/\(0:Int)∉k.srt:=by
 induction f with
 |nil=>intro n k h;simp[subs] at h
 |cons m a b ia ib=>
  intro n k h
  obtain ⟨h1,h2,h3,h4⟩:=qGJ.1 hw
  obtain ⟨s1,s2,s3⟩:=qWM.1 hs
  simp only[subs,qY12,qZ7,Prod.mk.injEq] at h
  rcases h with ⟨rfl,rfl⟩ | h | h
  ·exact ⟨h1,h2,h3,s1⟩
  ·exact ia h3 s1 h
  ·exact ib h4 s3 h
theorem qBd {f:Tf}:∀ {n:Nod} {k:Tf},(n,k)∈f.subs->k.size < f.size:=by
 induction f with
 |nil=>intro n k h;simp[subs] at h
 |cons m a b ia ib=>
  intro n k h
  simp only[subs,qY12,qZ7,Prod.mk.injEq] at h
  simp only[size]
  rcases h with ⟨rfl,rfl⟩ | h | h
  ·omega
  ·have:=ia h;omega
  ·have:=ib h;omega
end Tf
open Tf
theorem qFae (t:List Nod) (P:List (Int×Sml)) (hP:P.length<=20000):∀ (k:Tf) (p:Nat) (out:List Int) (idx:Nat) (K:Int),(∃ rest,P.drop p=info p k++rest)->((idx+k.len:Nat):Int)=K->out.length+k.len<=100000->idx+k.len<=100000->
 qPA qPJ (some (t,P),out,(p:Int),K,(idx:Int),())=some (.exit 0,(some (t,P),out++rtf p k,((p+k.size:Nat):Int),K,K,())):=by
 intro k
 induction k with
 |nil=>
  intro p out idx K _ h1 _ _
  simp only[len,Nat.add_zero] at h1
  subst h1
  refine qWA ?_ (by simp)
  unfold qPJ
  simp only
  rw[qOA (by omega)]
  simp[rtf,size]
 |cons n k r ik ir=>
  intro p out idx K ⟨rest,hr⟩ h1 h2 h3
  simp only[info,qY5] at hr
  obtain ⟨g1,g2⟩:=qOL (d:=((0:Int),(0:Int),(0:Int))) hr
  simp only[len] at h1 h2 h3
  have hr':P.drop (p+1+size k)=info (p+1+size k) r++rest:=by
   have:=congrArg (List.drop (1+size k)) hr
   rw[List.drop_drop] at this
   have e:p+(1+size k)=p+1+size k:=by omega
   rw[e] at this
   rw[this,Nat.add_comm 1,List.drop_succ_cons,qZ1,List.drop_append_of_le_length (by rw[qWJ];omega)]
   have:(info (p+1) k).drop (size k)=[]:=qY7 (by rw[qWJ];omega)
   rw[this,qY15]
  rw[qAB (y:=(some (t,P),out++[(p:Int)],((p+1+size k:Nat):Int),K,((idx+1:Nat):Int),())) (by
   unfold qPJ
   simp only[Option.isSome_some,Option.getD_some]
   rw[qIA (by omega),qZ0,g1]
   rw[qBA (by simp[qWE];omega),qIU,qEA,qBA (by omega),qBA (by omega),w64 (x:=(idx:Int)+1) (by omega)]
   rfl)]
  rw[ir (p+1+size k) _ (idx+1) K ⟨rest,hr'⟩ (by omega) (by simp;omega) (by omega)]
  have e2:p+1+size k+size r=p+(cons n k r).size:=by simp only[size];omega
  rw[e2]
  simp only[rtf,qZ1,qY5,qY15]
theorem qHao {t:List Nod} {P:List (Int×Sml)} (hP:P.length<=20000) {p:Nat} {n:Nod} {k:Tf} {rest:List (Int×Sml)} (hp:p < t.length) (ht:t.getD p qQE=n) (hn:qEF n=(k.len:Int)) (hd:P.drop (p+1)=info (p+1) k++rest) (hk:k.size<=20000) (hpl:p<=20000) :
 qAP (some (t,P)) (p:Int)=some ((rtf (p+1) k,()),()):=by
 have hkl:=qPL k
 unfold qAP
 simp only[Option.isSome_some,Option.getD_some]
 rw[qIU,qEA,qBA (by omega),qBA (by omega),qZ0,ht,w64 (by omega)]
 have hK:n.2.2.2.2=(k.len:Int):=hn
 have:=qFae t P hP k (p+1) [] 0 (k.len:Int) ⟨rest,hd⟩ (by simp) (by simp;omega) (by omega)
 rw[hK]
 have e:((p+1:Nat):Int)=(p:Int)+1:=by omega
 rw[e] at this
 rw[show ((0:Nat):Int)=0 from rfl] at this
 rw[this]
 simp only[qAA,qCC,qRA,qY15]
theorem qRag (t:List Nod) (P:List (Int×Sml)) (hP:P.length<=20000) (t4:qBs×qCA) (nm:qBs) (s:Int):∀ (k:Tf) (p:Nat) (args pre:List Int),(∃ rest,P.drop p=info p k++rest)->args.length+k.len<=100000->pre.length+k.len<=100000->
 qPA t_view_signature_s3 (some (t,P),t4,(nm,args,s),pre++rtf p k,((pre++rtf p k).length:Int),(pre.length:Int),())=some (.exit 0,(some (t,P),t4,(nm,args++k.srt,s),pre++rtf p k,((pre++rtf p k).length:Int),((pre++rtf p k).length:Int),())):=by
 intro k
 induction k with
 |nil=>
  intro p args pre _ _ _
  refine qWA ?_ (by simp)
  unfold t_view_signature_s3
  simp only[rtf,qY4]
  rw[qOA (by omega)]
  simp[srt]
 |cons n k r ik ir=>
  intro p args pre ⟨rest,hr⟩ h2 h3
  simp only[info,qY5] at hr
  obtain ⟨g1,g2⟩:=qOL (d:=((0:Int),(0:Int),(0:Int))) hr
  simp only[len] at h2 h3
  have hr':P.drop (p+1+size k)=info (p+1+size k) r++rest:=by
   have:=congrArg (List.drop (1+size k)) hr
   rw[List.drop_drop] at this
   have e:p+(1+size k)=p+1+size k:=by omega
   rw[e] at this
   rw[this,Nat.add_comm 1,List.drop_succ_cons,qZ1,List.drop_append_of_le_length (by rw[qWJ];omega)]
   have:(info (p+1) k).drop (size k)=[]:=qY7 (by rw[qWJ];omega)
   rw[this,qY15]
  have ih:=ir (p+1+size k) (args++[if 0∈srt k then 0 else qXC n (op1 k) (srt k)]) (pre++[(p:Int)]) ⟨rest,hr'⟩ (by simp;omega) (by simp;omega)
  simp only[qZ1,qY5,qY15] at ih
  simp only[rtf,srt]
  rw[qAB (y:=(some (t,P),t4,(nm,args++[if 0∈srt k then 0 else qXC n (op1 k) (srt k)],s),pre++(p:Int)::rtf (p+1+size k) r,((pre++(p:Int)::rtf (p+1+size k) r).length:Int),((pre.length+1:Nat):Int),())) (by
   unfold t_view_signature_s3
   have e:(pre++(p:Int)::rtf (p+1+size k) r).getD pre.length 0=(p:Int):=by simp[qZ4]
   simp only[Option.isSome_some,Option.getD_some]
   rw[qIA (by simp;omega),qEA,qBA (by omega),qBA (by simp;omega),qIU,qZ0,e,qEA,qBA (by omega),qBA (by omega),qZ0,g1,qBA (by simp[qWE];omega),w64 (x:=(pre.length:Int)+1) (by omega)]
   rfl)]
  have e2:(pre++[(p:Int)]).length=pre.length+1:=by simp
  rw[e2] at ih
  rw[ih]
theorem qBaq {t:List Nod} {P:List (Int×Sml)} (hP:P.length<=20000) {p:Nat} {n:Nod} {k:Tf} {rest:List (Int×Sml)} (hp:p < t.length) (ht:t.getD p qQE=n) (hn:qEF n=(k.len:Int)) (hd:P.drop (p+1)=info (p+1) k++rest) (hk:k.size<=20000) (hpl:p<=20000) :
 qVJ (some (t,P)) (p:Int)=some (((qSP n,k.srt,qJG n),()),()):=by
 have hkl:=qPL k
 unfold qVJ
 simp only[Option.isSome_some,Option.getD_some]
 rw[qIU,qEA,qBA (by omega),qBA (by omega),qIU,qEA,qBA (by omega),qBA (by omega),qZ0,ht,qHao hP hp ht hn hd hk hpl,qAA]
 have:=qRag t P hP (([]:qBs),([]:List Int),(0:Int)) n.2.2.1 n.2.1 k (p+1) [] [] ⟨rest,hd⟩ (by simp;omega) (by simp;omega)
 simp only[qY15,List.length_nil] at this
 rw[show ((0:Nat):Int)=0 from rfl] at this
 rw[this]
 simp only[qAA,qCC,qRA]
abbrev Us:=qBs×Bool×List Int×Int
def qRR (x:Nod×Tf):Option Us:=if nOp x.1=4 then some (qSP x.1,false,[],qJG x.1) else if nOp x.1=5 then some (qSP x.1,true,x.2.srt,qJG x.1) else none
def qQp (f:Tf):List Us:=f.subs.filterMap qRR
def Cns (us:List Us):Prop:=∀ a∈us,∀ b∈us,a.1=b.1->a=b
theorem Cns.mono {us vs:List Us} (h:Cns vs) (hs:∀ a∈us,a∈vs):Cns us:=fun a ha b hb e=>h a (hs a ha) b (hs b hb) e
structure NI (us:List Us) (vars:List (qBs×Vr)) (funcs:List (qBs×qBs×qCA)):Prop where
 cns:Cns us
 w:∀ a∈us,(a.2.1=false/\a.2.2.1=[])\/a.2.1=true
 v:∀ nm x,qLD nm vars=some x->x.1=nm/\(nm,false,[],x.2)∈us
 v':∀ nm s,(nm,false,[],s)∈us->(qLD nm vars).isSome=true
 f:∀ nm x,qLD nm funcs=some x->x.1=nm/\(nm,true,x.2.1,x.2.2)∈us
 f':∀ nm a s,(nm,true,a,s)∈us->(qLD nm funcs).isSome=true
theorem NI.nil:NI [] [] []:=⟨fun a h=>absurd h qY16,fun a h=>absurd h qY16,fun nm x h=>(by simp[qLD] at h),fun nm s h=>absurd h qY16,fun nm x h=>(by simp[qLD] at h),fun nm a s h=>absurd h qY16⟩
theorem NI.fresh {us:List Us} {vars:List (qBs×Vr)} {funcs:List (qBs×qBs×qCA)} (h:NI us vars funcs) {nm:qBs} (h1:qLD nm vars=none) (h2:qLD nm funcs=none):∀ a∈us,a.1≠nm:=by
 rintro ⟨m,b,l,s⟩ ha e
 simp only at e
 subst e
 rcases h.w _ ha with ⟨e1,e2⟩ | e1
 ·simp only at e1 e2;subst e1;subst e2
  have:=h.v' _ _ ha
  rw[h1] at this;cases this
 ·simp only at e1;subst e1
  have:=h.f' _ _ _ ha
  rw[h2] at this;cases this
theorem qMk {us:List Us} {u:Us} (h:Cns us) (hu:∀ a∈us,a.1=u.1->a=u):Cns (us++[u]):=by
 intro a ha b hb e
 rcases List.mem_append.1 ha with ha1 | ha1
 ·rcases List.mem_append.1 hb with hb1 | hb1
  ·exact h a ha1 b hb1 e
  ·rw[qZ8] at hb1
   rw[hb1] at e ⊢
   exact hu a ha1 e
 ·rw[qZ8] at ha1
  rw[ha1] at e ⊢
  rcases List.mem_append.1 hb with hb1 | hb1
  ·exact (hu b hb1 e.symm).symm
  ·rw[qZ8] at hb1;exact hb1.symm
theorem NI.addV {us:List Us} {vars:List (qBs×Vr)} {funcs:List (qBs×qBs×qCA)} (h:NI us vars funcs) {nm:qBs} {s:Int} (h1:qLD nm vars=none) (h2:qLD nm funcs=none):NI (us++[(nm,false,[],s)]) (qWa nm (nm,s) vars) funcs:=by
 have hf:=h.fresh h1 h2
 refine ⟨qMk h.cns fun a ha e=>absurd e (hf a ha),fun a ha=>?_,fun m x hx=>?_,fun m x hx=>?_,fun m x hx=>?_,fun m a x hx=>?_⟩
 ·rcases List.mem_append.1 ha with ha | ha
  ·exact h.w a ha
  ·rw[qZ8] at ha;subst ha;exact .inl ⟨rfl,rfl⟩
 ·by_cases e:m=nm
  ·subst e;rw[qSL] at hx;cases hx;exact ⟨rfl,by simp⟩
  ·rw[qRP e] at hx
   obtain ⟨a1,a2⟩:=h.v m x hx
   exact ⟨a1,List.mem_append_left _ a2⟩
 ·by_cases e:m=nm
  ·subst e;rw[qSL];rfl
  ·rw[qRP e]
   rcases List.mem_append.1 hx with hx | hx
   ·exact h.v' m x hx
   ·rw[qZ8] at hx;cases hx;exact absurd rfl e
 ·obtain ⟨a1,a2⟩:=h.f m x hx
  exact ⟨a1,List.mem_append_left _ a2⟩
 ·rcases List.mem_append.1 hx with hx | hx
  ·exact h.f' m a x hx
  ·rw[qZ8] at hx;cases hx
theorem NI.addF {us:List Us} {vars:List (qBs×Vr)} {funcs:List (qBs×qBs×qCA)} (h:NI us vars funcs) {nm:qBs} {l:List Int} {s:Int} (h1:qLD nm vars=none) (h2:qLD nm funcs=none):NI (us++[(nm,true,l,s)]) vars (qWa nm (nm,l,s) funcs):=by
 have hf:=h.fresh h1 h2
 refine ⟨qMk h.cns fun a ha e=>absurd e (hf a ha),fun a ha=>?_,fun m x hx=>?_,fun m x hx=>?_,fun m x hx=>?_,fun m a x hx=>?_⟩
 ·rcases List.mem_append.1 ha with ha | ha
  ·exact h.w a ha
  ·rw[qZ8] at ha;subst ha;exact .inr rfl
 ·obtain ⟨a1,a2⟩:=h.v m x hx
  exact ⟨a1,List.mem_append_left _ a2⟩
 ·rcases List.mem_append.1 hx with hx | hx
  ·exact h.v' m x hx
  ·rw[qZ8] at hx;cases hx
 ·by_cases e:m=nm
  ·subst e;rw[qSL] at hx;cases hx;exact ⟨rfl,by simp⟩
  ·rw[qRP e] at hx
   obtain ⟨a1,a2⟩:=h.f m x hx
   exact ⟨a1,List.mem_append_left _ a2⟩
 ·by_cases e:m=nm
  ·subst e;rw[qSL];rfl
  ·rw[qRP e]
   rcases List.mem_append.1 hx with hx | hx
   ·exact h.f' m a x hx
   ·rw[qZ8] at hx;cases hx;exact absurd rfl e
theorem NI.again {us:List Us} {vars:List (qBs×Vr)} {funcs:List (qBs×qBs×qCA)} (h:NI us vars funcs) {u:Us} (hu:u∈us):NI (us++[u]) vars funcs:=by
 have hm:∀ a,a∈us++[u] ↔ a∈us:=fun a=>by
  rw[qZ7,qZ8]
  exact ⟨fun h=>h.elim id fun e=>e ▸ hu,.inl⟩
 exact ⟨qMk h.cns fun a ha e=>h.cns a ha u hu e,fun a ha=>h.w a ((hm a).1 ha),fun m x hx=>⟨(h.v m x hx).1,(hm _).2 (h.v m x hx).2⟩,fun m s hx=>h.v' m s ((hm _).1 hx),fun m x hx=>⟨(h.f m x hx).1,(hm _).2 (h.f m x hx).2⟩,fun m a s hx=>h.f' m a s ((hm _).1 hx)⟩
end Go.AM.Num
end
section
namespace Go.AM.Num
open Tf
theorem qQaa {a b:List Int} (ha:a.length<=2000000000):qLG a b=some ((decide (a=b),()),()):=by
 unfold qLG
 by_cases hl:a.length=b.length
 ·rw[qRE (by omega)]
  have:=qCL (step:=qXD) (fun k=>(a,b,false,(a.length:Int),(k:Int),())) (fun k=>(a,b,false,(a.length:Int),(k:Int),())) a.length (E:=.exit 0) (B:=.ret) (by simp) (by simp) (fun k=>decide (a.getD k 0=b.getD k 0)) (fun k hk=>by
   unfold qXD
   simp only
   rw[qIA (by omega),qEA,qBA (by omega),qBA (by omega),qEA,qBA (by omega),qBA (by omega),qZ0,w64 (by omega)]
   by_cases h:a.getD k 0=b.getD k 0
   ·rw[qRE h,if_pos (qZ10 h)];rfl
   ·rw[qVE h,if_neg (fun e=>h (of_decide_eq_true e))]) (by
   unfold qXD
   simp only
   rw[qOA (by omega)])
  rw[show ((0:Nat):Int)=0 from rfl] at this
  have heq:(List.range a.length).all (fun k=>decide (a.getD k 0=b.getD k 0))=decide (a=b):=by
   rw[Bool.eq_iff_iff,qY3,decide_eq_true_eq]
   constructor
   ·intro h
    refine List.ext_getElem hl fun k h1 h2=>?_
    have:=h k (List.mem_range.2 h1)
    simpa [qZ4,h1,h2] using this
   ·rintro rfl k _;simp
  rcases this with ⟨h1,h2⟩ | ⟨h1,k,h2⟩
  ·rw[h2,<-heq,h1];simp only[qAA,qCC,qRA]
  ·rw[h2,<-heq,h1];simp only[qAA,qDF,qCF,qRA,qVA]
 ·rw[qVE (by omega),qZ9 (fun e=>hl (by rw[e]))]
theorem qJm {f g:qBs×qCA} (h:f.2.1.length<=2000000000):qDo f g=some ((decide (f=g),()),()):=by
 obtain ⟨a,l,s⟩:=f
 obtain ⟨b,m,u⟩:=g
 simp only at h
 unfold qDo
 simp only[qQaa h,qAA]
 by_cases h1:a=b
 ·rw[show (a==b)=true by simpa using h1,qRA]
  by_cases h2:s=u
  ·rw[qHA h2];simp[h1,h2]
  ·rw[qDA h2,qZ9 (fun e=>h2 (by cases e;rfl))]
 ·rw[show (a==b)=false by simpa using h1,qVA,qZ9 (fun e=>h1 (by cases e;rfl))]
section
variable {F:Tf} {t:List Nod} {P:List (Int×Sml)}
abbrev qGT (F:Tf) (p:Nat):List Us:=(F.subs.take p).filterMap qRR
theorem qNZ {p:Nat}:∀ a∈qGT F p,a∈qQp F:=by
 intro a ha
 simp only[qGT,qQp,List.mem_filterMap] at ha ⊢
 obtain ⟨x,h1,h2⟩:=ha
 exact ⟨x,List.mem_of_mem_take h1,h2⟩
theorem qUi {p:Nat} {n:Nod} {k:Tf} (h:F.subs[p]?=some (n,k)):qGT F (p+1)=qGT F p++(qRR (n,k)).toList:=by
 simp only[qGT,List.take_add_one,h,Option.toList_some,List.filterMap_append]
 cases hu:qRR (n,k)<;>simp[hu]
theorem qVw (hF:F.flat=t) (hw:F.wf=true) (hs:(0:Int)∉F.srt) (hz:F.size<=20000) (hP:P=info 0 F) {p:Nat} (hp:p < F.size) {vars:List (qBs×Vr)} {funcs:List (qBs×qBs×qCA)} {l0:List Vr} {m0:List (qBs×qCA)}
 (hI:NI (qGT F p) vars funcs) (hl:l0.length<=p) (hm:m0.length<=p) :
 (¬ Cns (qGT F (p+1))/\∃ x,qSE (some (t,P),([]:List Vr),([]:List (qBs×qCA)),false,vars,funcs,l0,m0,t,(t.length:Int),(p:Int),())=some (.ret,(some (t,P),([]:List Vr),([]:List (qBs×qCA)),false,x)))\/
 ∃ vars' funcs' l' m',NI (qGT F (p+1)) vars' funcs'/\l'.length<=p+1/\m'.length<=p+1/\qSE (some (t,P),([]:List Vr),([]:List (qBs×qCA)),false,vars,funcs,l0,m0,t,(t.length:Int),(p:Int),())=some (.normal,(some (t,P),([]:List Vr),([]:List (qBs×qCA)),false,vars',funcs',l',m',t,(t.length:Int),((p+1:Nat):Int),())):=by
 obtain ⟨n,k,x,rest,rest2,h1,h2,h3⟩:=qCak F 0 p hp
 obtain ⟨g1,g2⟩:=qOL (d:=qQE) h2
 have hmem:(n,k)∈F.subs:=qY14 h1
 obtain ⟨w1,w2,w3,w4⟩:=qAak hw hs hmem
 have hks:=qBd hmem
 have htl:t.length=F.size:=by rw[<-hF,qVD]
 have hPl:P.length=F.size:=by rw[hP,qWJ]
 rw[hF] at g1
 have hd:P.drop (p+1)=info (p+1) k++rest2:=by
  have:=congrArg (List.drop 1) h3
  rw[List.drop_drop] at this
  rw[hP]
  simpa using this
 have hwp:qI ((p:Int)+1)=((p+1:Nat):Int):=by rw[w64 (by omega)];rfl
 have hT:=qUi h1
 unfold qSE
 simp only
 rw[qIA (by omega),qEA,qBA (by omega),qBA (by omega),qZ0,g1,hwp]
 by_cases e4:n.1=4
 ·have hu:qRR (n,k)=some (n.2.2.1,false,[],n.2.1):=by unfold qRR;rw[if_pos e4]
  rw[hu] at hT
  rw[qHA e4]
  cases hv:qLD n.2.2.1 vars with
  |none=>
   simp only[Option.isSome_none,qY1,qRA]
   rw[qBA (by simp[qWE];omega)]
   cases hf:qLD n.2.2.1 funcs with
   |none=>
    simp only[Option.isSome_none,qVA]
    rw[qRE rfl]
    exact .inr ⟨_,_,_,_,by rw[hT];exact hI.addV hv hf,by simp;omega,by omega,rfl⟩
   |some g=>
    simp only[Option.isSome_some,qRA]
    refine .inl ⟨fun hc=>?_,_,rfl⟩
    obtain ⟨a1,a2⟩:=hI.f _ _ hf
    rw[hT] at hc
    have:=hc _ (List.mem_append_left _ a2) (n.2.2.1,false,[],n.2.1) (by simp) rfl
    simp at this
  |some y=>
   simp only[Option.isSome_some,qY2,qVA,Option.getD_some]
   obtain ⟨b1,b2⟩:=hI.v _ _ hv
   cases hf:qLD n.2.2.1 funcs with
   |none=>
    simp only[Option.isSome_none,qVA]
    by_cases q:y.2=n.2.1
    ·rw[qRE q]
     rw[q] at b2
     exact .inr ⟨_,_,_,_,by rw[hT];exact hI.again b2,by omega,by omega,rfl⟩
    ·rw[qVE q]
     refine .inl ⟨fun hc=>?_,_,rfl⟩
     rw[hT] at hc
     have:=hc _ (List.mem_append_left _ b2) (n.2.2.1,false,[],n.2.1) (by simp) rfl
     simp at this
     exact q this
   |some g=>
    simp only[Option.isSome_some,qRA]
    refine .inl ⟨fun hc=>?_,_,rfl⟩
    obtain ⟨a1,a2⟩:=hI.f _ _ hf
    rw[hT] at hc
    have:=hc _ (List.mem_append_left _ a2) (n.2.2.1,false,[],n.2.1) (by simp) rfl
    simp at this
 ·rw[qDA e4]
  by_cases e5:n.1=5
  ·have hu:qRR (n,k)=some (n.2.2.1,true,k.srt,n.2.1):=by unfold qRR;rw[if_neg e4,if_pos e5]
   rw[hu] at hT
   rw[qHA e5,qBaq (by omega) (by omega) g1 w2 hd (by omega) (by omega),qAA]
   have hkl:k.srt.length<=2000000000:=by rw[qEM];have:=qPL k;omega
   simp only
   cases hf:qLD n.2.2.1 funcs with
   |none=>
    simp only[Option.isSome_none,qY1,qRA]
    rw[qBA (by simp[qWE];omega)]
    cases hv:qLD n.2.2.1 vars with
    |none=>
     simp only[Option.isSome_none,qVA]
     rw[qJm hkl,qAA,qZ10 rfl]
     simp only[qY2,qVA]
     exact .inr ⟨_,_,_,_,by rw[hT];exact hI.addF hv hf,by omega,by simp;omega,rfl⟩
    |some y=>
     simp only[Option.isSome_some,qRA]
     refine .inl ⟨fun hc=>?_,_,rfl⟩
     obtain ⟨a1,a2⟩:=hI.v _ _ hv
     rw[hT] at hc
     have:=hc _ (List.mem_append_left _ a2) (n.2.2.1,true,k.srt,n.2.1) (by simp) rfl
     simp at this
   |some g=>
    simp only[Option.isSome_some,qY2,qVA,Option.getD_some]
    obtain ⟨b1,b2⟩:=hI.f _ _ hf
    cases hv:qLD n.2.2.1 vars with
    |none=>
     simp only[Option.isSome_none,qVA]
     obtain ⟨gn,gl,gs⟩:=g
     simp only at b1 b2
     have hgl:gl.length<=2000000000:=by
      obtain ⟨⟨n',k'⟩,m1,m2⟩:=List.mem_filterMap.1 (qNZ _ b2)
      unfold qRR at m2
      split at m2
      ·simp at m2
      ·split at m2
       ·simp only[Option.some.injEq,Prod.mk.injEq] at m2
        rw[<-m2.2.2.1,qEM]
        have:=qBd m1;have:=qPL k';omega
       ·cases m2
     rw[qJm hgl,qAA]
     by_cases q:(gn,gl,gs)=(qSP n,k.srt,qJG n)
     ·rw[qZ10 q]
      simp only[qY2,qVA]
      simp only[Prod.mk.injEq] at q
      rw[q.2.1,q.2.2] at b2
      exact .inr ⟨_,_,_,_,by rw[hT];exact hI.again b2,by omega,by omega,rfl⟩
     ·rw[qZ9 q]
      simp only[qY1,qRA]
      refine .inl ⟨fun hc=>?_,_,rfl⟩
      rw[hT] at hc
      have:=hc _ (List.mem_append_left _ b2) (n.2.2.1,true,k.srt,n.2.1) (by simp) rfl
      simp only[Prod.mk.injEq,true_and] at this
      exact q (by rw[b1,this.1,this.2])
    |some y=>
     simp only[Option.isSome_some,qRA]
     refine .inl ⟨fun hc=>?_,_,rfl⟩
     obtain ⟨a1,a2⟩:=hI.v _ _ hv
     rw[hT] at hc
     have:=hc _ (List.mem_append_left _ a2) (n.2.2.1,true,k.srt,n.2.1) (by simp) rfl
     simp at this
  ·have hu:qRR (n,k)=none:=by unfold qRR;rw[if_neg e4,if_neg e5]
   rw[hu] at hT
   rw[qDA e5]
   exact .inr ⟨_,_,_,_,by rw[hT];simpa using hI,by omega,by omega,rfl⟩
theorem qDv (hF:F.flat=t) (hw:F.wf=true) (hs:(0:Int)∉F.srt) (hz:F.size<=20000) (hP:P=info 0 F):∀ (m p:Nat) (vars:List (qBs×Vr)) (funcs:List (qBs×qBs×qCA)) (l0:List Vr) (m0:List (qBs×qCA)),p+m=F.size->
 NI (qGT F p) vars funcs->l0.length<=p->m0.length<=p->
 (¬ Cns (qQp F)/\∃ x,qPA qSE (some (t,P),([]:List Vr),([]:List (qBs×qCA)),false,vars,funcs,l0,m0,t,(t.length:Int),(p:Int),())=some (.ret,(some (t,P),([]:List Vr),([]:List (qBs×qCA)),false,x)))\/
 (Cns (qQp F)/\∃ x,qPA qSE (some (t,P),([]:List Vr),([]:List (qBs×qCA)),false,vars,funcs,l0,m0,t,(t.length:Int),(p:Int),())=some (.exit 0,(some (t,P),([]:List Vr),([]:List (qBs×qCA)),false,x))):=by
 have htl:t.length=F.size:=by rw[<-hF,qVD]
 intro m
 induction m with
 |zero=>
  intro p vars funcs l0 m0 hp hI _ _
  refine .inr ⟨?_,_,qWA (by unfold qSE;simp only;rw[qOA (by omega)]) (by simp)⟩
  have e:qGT F p=qQp F:=by unfold qGT qQp;rw[List.take_of_length_le (by rw[qBY];omega)]
  rw[<-e];exact hI.cns
 |succ m ih=>
  intro p vars funcs l0 m0 hp hI hl hm
  rcases qVw hF hw hs hz hP (p:=p) (by omega) hI hl hm with ⟨h1,x,h2⟩ | ⟨vars',funcs',l',m',h1,h2,h3,h4⟩
  ·exact .inl ⟨fun hc=>h1 (hc.mono qNZ),x,qWA h2 (by simp)⟩
  ·rw[qAB h4]
   exact ih (p+1) vars' funcs' l' m' (by omega) h1 h2 h3
theorem qBy (hF:F.flat=t) (hw:F.wf=true) (hs:(0:Int)∉F.srt) (hz:F.size<=20000):(Cns (qQp F)/\∃ l m,qBN (some (t,info 0 F))=some ((l,m,true,()),()))\/(¬ Cns (qQp F)/\qBN (some (t,info 0 F))=some (([],[],false,()),())):=by
 unfold qBN
 simp only[Option.isSome_some,Option.getD_some]
 rw[qIU]
 rcases qDv hF hw hs hz rfl F.size 0 [] [] [] [] (by omega) NI.nil (by simp) (by simp) with ⟨h1,x,h2⟩ | ⟨h1,x,h2⟩
 ·rw[show ((0:Nat):Int)=0 from rfl] at h2
  rw[h2]
  simp only[qAA,qDF,qCF,qRA,qVA]
  exact .inr ⟨h1,by first | rfl | trivial⟩
 ·rw[show ((0:Nat):Int)=0 from rfl] at h2
  rw[h2]
  simp only[qAA,qCC,qRA]
  exact .inl ⟨h1,_,_,rfl⟩
end
structure VT (t:List Nod) (F:Tf):Prop where
 flat:F.flat=t
 wf:F.wf=true
 srt:(0:Int)∉F.srt
 len:F.len=1
 size:F.size<=20000
 dep:F.dep<=257
 cns:Cns (qQp F)
theorem VT.one {t:List Nod} {F:Tf} (h:VT t F):∃ n k,F=cons n k nil:=by
 have:=h.len
 cases F with
 |nil=>simp[Tf.len] at this
 |cons n k r=>
  cases r with
  |nil=>exact ⟨n,k,rfl⟩
  |cons a b c=>simp only[Tf.len] at this;omega
theorem VT.bkp {t:List Nod} {F:Tf} (h:VT t F):bkp t=some F:=qIal.2 ⟨h.flat,h.wf,h.srt⟩
theorem VT.uniq {t:List Nod} {F G:Tf} (h:VT t F) (g:VT t G):F=G:=by
 have:=h.bkp;rw[g.bkp] at this;exact (Option.some.inj this).symm
theorem qKv {t:List Nod} (hs:qQQ t):(∃ F,VT t F/\qGb t=some ((some (t,info 0 F),true,()),()))\/((¬ ∃ F,VT t F)/\qGb t=some ((none,false,()),())):=by
 unfold qGb
 by_cases h0:t.length=0
 ·rw[qHA (by omega)]
  refine .inr ⟨fun ⟨F,hF⟩=>?_,rfl⟩
  obtain ⟨n,k,e⟩:=hF.one
  have:=hF.flat
  rw[e] at this
  rw[<-this] at h0
  simp[Tf.flat] at h0
 rw[qDA (by omega)]
 by_cases h1:t.length > 20000
 ·rw[qIA (by omega)]
  refine .inr ⟨fun ⟨F,hF⟩=>?_,rfl⟩
  have:=hF.size
  have h2:=qVD F
  rw[hF.flat] at h2
  omega
 rw[qOA (by omega),qYae hs (by omega),qAA]
 cases hb:bkp t with
 |none=>exact .inr ⟨fun ⟨F,hF⟩=>(by rw[hF.bkp] at hb;cases hb),rfl⟩
 |some F=>
  obtain ⟨f1,f2,f3⟩:=qQe hb
  have hz:F.size<=20000:=by rw[<-qVD,f1];omega
  simp only
  by_cases hl:F.len=1
  ·rw[qZ10 hl]
   simp only[qY2,qVA]
   obtain ⟨n,k,e⟩:∃ n k,F=cons n k nil:=by
    cases F with
    |nil=>simp[Tf.len] at hl
    |cons n k r=>
     cases r with
     |nil=>exact ⟨n,k,rfl⟩
     |cons a b c=>simp only[Tf.len] at hl;omega
   have hlarge:qDQ (some (t,info 0 F))=some ((decide (F.dep > 257),()),()):=by
    unfold qDQ
    simp only[Option.isSome_some,Option.getD_some]
    rw[qIU,qOA (by omega),qIU,e]
    have hd:(cons n k nil).dep=k.dep+1:=by simp only[Tf.dep];omega
    have hg:((info 0 (cons n k nil)).getD (0:Int).toNat ((0:Int),(0:Int),(0:Int))).2.1=((k.dep+1:Nat):Int):=rfl
    rw[qEA,qBA (by omega),qBA (by rw[qWJ];simp only[Tf.size];omega),hd]
    have e2:decide (((info 0 (cons n k nil)).getD (0:Int).toNat ((0:Int),(0:Int),(0:Int))).2.1 > 257)=decide (k.dep+1 > 257):=by rw[decide_eq_decide,hg];omega
    rw[e2]
   rw[hlarge,qAA]
   by_cases hd:F.dep > 257
   ·rw[qZ10 hd]
    refine .inr ⟨fun ⟨G,hG⟩=>?_,rfl⟩
    have:=hG.bkp
    rw[hb] at this
    cases this
    exact absurd hG.dep (by omega)
   rw[qZ9 hd]
   simp only[qVA]
   rcases qBy f1 f2 f3 hz with ⟨c1,l,m,c2⟩ | ⟨c1,c2⟩
   ·rw[c2,qAA]
    exact .inl ⟨F,⟨f1,f2,f3,hl,hz,by omega,c1⟩,rfl⟩
   ·rw[c2,qAA]
    refine .inr ⟨fun ⟨G,hG⟩=>?_,rfl⟩
    have:=hG.bkp
    rw[hb] at this
    cases this
    exact c1 hG.cns
  ·rw[qZ9 hl]
   refine .inr ⟨fun ⟨G,hG⟩=>?_,rfl⟩
   have:=hG.bkp
   rw[hb] at this
   cases this
   exact hl hG.len
theorem qAy {t:List Nod} (hs:qQQ t):∃ b,qGg t=some ((b,()),())/\(b=true ↔ ∃ F,VT t F):=by
 unfold qGg
 rcases qKv hs with ⟨F,h1,h2⟩ | ⟨h1,h2⟩
 ·rw[h2,qAA];exact ⟨_,rfl,fun _=>⟨F,h1⟩,fun _=>rfl⟩
 ·rw[h2,qAA];exact ⟨_,rfl,fun h=>(by cases h),fun h=>absurd h h1⟩
end Go.AM.Num
end
section
namespace Go.AM.Num
inductive SV where
 |b (x:Bool)
 |z (n:Int)
 |q (r:Rat)
 |a (d:Int) (P:KV)
def encS:SV->Val
 |.b x=>(1,x,[],[],[])
 |.z n=>(2,false,ti n,[],[])
 |.q r=>(3,false,txt r,[],[])
 |.a d P=>qUH d P
def qCH:SV->Int
 |.b _=>1
 |.z _=>2
 |.q _=>3
 |.a _ _=>4
def okS:SV->Prop
 |.a d P=>Canon d P
 |_=>True
def isT:SV->Bool
 |.b x=>x
 |_=>false
def qRU:SV->Rat
 |.z n=>(n:Rat)
 |.q r=>r
 |_=>0
def intV (v:SV):Int:=(qRU v).num
def qEu (s:Int) (r:Rat):SV:=if s=2 then .z r.num else .q r
def atS:SV->Int->Int
 |.a d P,i=>atP d P i
 |_,_=>0
def stS:SV->Int->Int->SV
 |.a d P,i,n=>.a d (stP d P i n)
 |v,_,_=>v
def sumQ (vs:List SV):Rat:=vs.foldl (fun s v=>s+qRU v) 0
noncomputable def qXg (n:Nod):Rat:=(rd (qSS n)).getD 0
open Classical in
noncomputable def opV (n:Nod) (vs:List SV):SV:=
 if nOp n=1\/nOp n=7 then .b (vs.all isT)
 else if nOp n=2\/nOp n=8 then .b (vs.any isT)
 else if nOp n=6 then .b (!isT (vs.getD 0 (.b false)))
 else if nOp n=9 then .b (!isT (vs.getD 0 (.b false))||isT (vs.getD 1 (.b false)))
 else if nOp n=10 then (if isT (vs.getD 0 (.b false))=true then vs.getD 1 (.b false) else vs.getD 2 (.b false))
 else if nOp n=11 then .b (decide (vs.getD 0 (.b false)=vs.getD 1 (.b false)))
 else if nOp n=12 then .b (decide (qRU (vs.getD 0 (.b false))<=qRU (vs.getD 1 (.b false))))
 else if nOp n=13 then .b (decide (qRU (vs.getD 0 (.b false)) < qRU (vs.getD 1 (.b false))))
 else if nOp n=3 then qEu (qJG n) (qXg n)
 else if nOp n=14 then qEu (qCH (vs.getD 0 (.b false))) (sumQ vs)
 else if nOp n=15 then qEu (qCH (vs.getD 0 (.b false))) (qRU (vs.getD 0 (.b false)) * qRU (vs.getD 1 (.b false)))
 else if nOp n=16 then .z (intV (vs.getD 0 (.b false)) / (qXg n).num)
 else if nOp n=17 then .z (intV (vs.getD 0 (.b false)) % (qXg n).num)
 else if nOp n=18 then .z (atS (vs.getD 0 (.b false)) (intV (vs.getD 1 (.b false))))
 else if nOp n=19 then stS (vs.getD 0 (.b false)) (intV (vs.getD 1 (.b false))) (intV (vs.getD 2 (.b false)))
 else .a (intV (vs.getD 0 (.b false))) []
theorem qJV (v:SV):(encS v).1=qCH v:=by cases v<;>rfl
theorem qUaq {P Q:KV} (h1:ks P=ks Q) (h2:vs P=vs Q):P=Q:=by
 induction P generalizing Q with
 |nil=>cases Q with
  |nil=>rfl
  |cons q Q=>simp[ks] at h1
 |cons p P ih=>
  cases Q with
  |nil=>simp[ks] at h1
  |cons q Q=>
   simp only[ks,vs,List.map_cons,List.cons.injEq] at h1 h2
   rw[ih h1.2 h2.2,Prod.ext (qEi h1.1) (qEi h2.1)]
theorem qNs {v w:SV} (h:encS v=encS w):v=w:=by
 have hs:=congrArg Prod.fst h
 rw[qJV,qJV] at hs
 cases v<;>cases w<;>simp only[qCH] at hs<;>first | (exfalso;revert hs;decide) | skip
 ·simp only[encS,Prod.mk.injEq] at h;rw[h.2.1]
 ·simp only[encS,Prod.mk.injEq] at h;rw[qEi h.2.2.1]
 ·simp only[encS,Prod.mk.injEq] at h;rw[txt_inj h.2.2.1]
 ·simp only[encS,Prod.mk.injEq] at h;rw[qEi h.2.2.1,qUaq h.2.2.2.1 h.2.2.2.2]
theorem qIb {v:Val}:qKP v=true ↔ v.2.2.2.1=[]/\v.2.2.2.2=[]:=by
 unfold qKP
 simp only[qY0,decide_eq_true_eq,List.length_eq_zero_iff]
theorem qPt {v:Val}:qTG v=true ↔ ∃ s,okS s/\v=encS s:=by
 constructor
 ·intro h
  by_cases h4:v.1=4
  ·obtain ⟨d,P,e,c⟩:=qSaa h h4
   exact ⟨.a d P,c,e⟩
  obtain ⟨s,b,num,k,w⟩:=v
  simp only at h4
  unfold qTG at h
  simp only at h
  split at h
  ·rename_i h1
   subst h1
   simp only[qY0,qIb,beq_iff_eq] at h
   obtain ⟨rfl,rfl,rfl⟩:=h
   exact ⟨.b b,trivial,rfl⟩
  ·split at h
   ·rename_i h1
    subst h1
    simp only[qY0,qIb,Bool.not_eq_true'] at h
    obtain ⟨⟨rfl,h2⟩,rfl,rfl⟩:=h
    obtain ⟨z,rfl⟩:=qFab h2
    exact ⟨.z z,trivial,rfl⟩
   ·split at h
    ·rename_i h1
     subst h1
     simp only[qY0,qIb,Bool.not_eq_true',Option.isSome_iff_exists] at h
     obtain ⟨⟨rfl,q,h2⟩,rfl,rfl⟩:=h
     have:=qFP h2
     subst this
     exact ⟨.q q,trivial,rfl⟩
    ·first | cases h | (rw[if_neg h4] at h;cases h)
 ·rintro ⟨s,h,rfl⟩
  cases s with
  |b x=>simp[encS,qTG,qKP]
  |z n=>simp[encS,qTG,qKP,qRb]
  |q r=>simp[encS,qTG,qKP,qFN]
  |a d P=>exact qEo h
theorem qUd {s:SV} (h:okS s):qTG (encS s)=true:=qPt.2 ⟨s,h,rfl⟩
theorem qFk {s:Int} (h:s=2\/s=3) (r:Rat):qCH (qEu s r)=s:=by
 unfold qEu
 split
 ·rename_i e;rw[e];rfl
 ·rcases h with h | h
  ·contradiction
  ·rw[h];rfl
theorem qGr (s:Int) (r:Rat):okS (qEu s r):=by unfold qEu;split<;>trivial
theorem qOal {n:Nod} {vs:List SV} {f:Int} (hn:qRC n=true) (h4:nOp n≠4) (h5:nOp n≠5) (hc:qHB (nOp n) vs.length=true) (hs:qXC n f (vs.map qCH)≠0) (hok:∀ v∈vs,okS v) :
 qCH (opV n vs)=qXC n f (vs.map qCH)/\okS (opV n vs):=by
 obtain ⟨o,s,nm,num,kd⟩:=n
 simp only[nOp] at h4 h5 hc
 have hall:∀ ws:List SV,(if ∀ s∈ws.map qCH,s=1 then (1:Int) else 0)≠0->(1:Int)=if ∀ s∈ws.map qCH,s=1 then (1:Int) else 0:=fun ws h=>by
  split at h<;>rename_i hh
  ·rw[if_pos hh]
  ·exact absurd rfl h
 unfold opV qXC at *
 simp only[nOp,qJG] at *
 by_cases e3:o=3
 ·subst e3
  simp at hs ⊢
  refine ⟨qFk ?_ _,qGr _ _⟩
  simp[qRC] at hn
  rcases hn.2 with h | h
  ·exact .inl h.1
  ·exact .inr h.1
 rw[if_neg (show ¬ (o=3\/o=4\/o=5) by omega)] at hs ⊢
 by_cases e1:o=1\/o=7
 ·rw[if_pos e1,if_pos (by omega)]
  rw[if_pos (by omega)] at hs
  exact ⟨hall vs hs,trivial⟩
 rw[if_neg e1]
 by_cases e2:o=2\/o=8
 ·rw[if_pos e2,if_pos (by omega)]
  rw[if_pos (by omega)] at hs
  exact ⟨hall vs hs,trivial⟩
 rw[if_neg e2]
 by_cases e6:o=6
 ·rw[if_pos e6,if_pos (by omega)]
  rw[if_pos (by omega)] at hs
  exact ⟨hall vs hs,trivial⟩
 rw[if_neg e6]
 by_cases e9:o=9
 ·rw[if_pos e9,if_pos (by omega)]
  rw[if_pos (by omega)] at hs
  exact ⟨hall vs hs,trivial⟩
 rw[if_neg e9]
 rw[if_neg (show ¬ (o=1\/o=2\/o=6\/o=7\/o=8\/o=9) by omega)] at hs ⊢
 by_cases e10:o=10
 ·subst e10
  rcases vs with _ | ⟨a,_ | ⟨b,_ | ⟨c,_ | ⟨d,l⟩⟩⟩⟩<;>simp[qHB] at hc
  ·simp at hs hok ⊢
   by_cases q:isT a=true
   ·rw[if_pos q,if_pos ⟨hs.1,hs.2.1⟩];exact ⟨rfl,hok.2.1⟩
   ·rw[if_neg q,if_pos ⟨hs.1,hs.2.1⟩];exact ⟨hs.2.1.symm,hok.2.2⟩
  ·omega
 rw[if_neg e10] at hs ⊢
 rw[if_neg e10]
 by_cases e11:o=11
 ·subst e11
  simp at hs ⊢
  rw[if_pos hs];exact ⟨rfl,trivial⟩
 rw[if_neg e11] at hs ⊢
 rw[if_neg e11]
 by_cases e12:o=12
 ·subst e12
  simp only[true_or,if_true] at hs ⊢
  split at hs<;>rename_i hh
  ·rw[if_pos hh];exact ⟨rfl,trivial⟩
  ·exact absurd rfl hs
 rw[if_neg e12]
 by_cases e13:o=13
 ·subst e13
  simp only[or_true,if_true] at hs ⊢
  split at hs<;>rename_i hh
  ·rw[if_pos hh];exact ⟨rfl,trivial⟩
  ·exact absurd rfl hs
 rw[if_neg e13,if_neg e3]
 rw[if_neg (show ¬ (o=12\/o=13) by omega)] at hs ⊢
 by_cases e14:o=14
 ·subst e14
  rcases vs with _ | ⟨a,l⟩<;>simp[qHB] at hc
  simp only[if_true,List.map_cons,qZ3] at hs ⊢
  split at hs<;>rename_i hh
  ·rw[if_pos hh];exact ⟨qFk hh.1 _,qGr _ _⟩
  ·exact absurd rfl hs
 rw[if_neg e14] at hs ⊢
 rw[if_neg e14]
 by_cases e15:o=15
 ·subst e15
  rcases vs with _ | ⟨a,l⟩<;>simp[qHB] at hc
  simp only[if_true,List.map_cons,qZ3] at hs ⊢
  split at hs<;>rename_i hh
  ·rw[if_pos hh];exact ⟨qFk hh.2.1 _,qGr _ _⟩
  ·exact absurd rfl hs
 rw[if_neg e15] at hs ⊢
 rw[if_neg e15]
 by_cases e16:o=16
 ·rw[if_pos e16,if_pos (.inl e16)]
  rw[if_pos (.inl e16)] at hs
  split at hs<;>rename_i hh
  ·rw[if_pos hh];exact ⟨rfl,trivial⟩
  ·exact absurd rfl hs
 rw[if_neg e16]
 by_cases e17:o=17
 ·rw[if_pos e17,if_pos (.inr e17)]
  rw[if_pos (.inr e17)] at hs
  split at hs<;>rename_i hh
  ·rw[if_pos hh];exact ⟨rfl,trivial⟩
  ·exact absurd rfl hs
 rw[if_neg e17]
 rw[if_neg (show ¬ (o=16\/o=17) by omega)] at hs ⊢
 by_cases e18:o=18
 ·rw[if_pos e18] at hs ⊢
  rw[if_pos e18]
  split at hs<;>rename_i hh
  ·rw[if_pos hh];exact ⟨rfl,trivial⟩
  ·exact absurd rfl hs
 rw[if_neg e18] at hs ⊢
 rw[if_neg e18]
 by_cases e19:o=19
 ·subst e19
  rcases vs with _ | ⟨a,_ | ⟨b,_ | ⟨c,_ | ⟨d,l⟩⟩⟩⟩<;>simp[qHB] at hc
  ·simp at hs hok ⊢
   rw[if_pos hs]
   cases a with
   |a d P=>exact ⟨rfl,qVe hok.1 _ _⟩
   |b x=>simp[qCH] at hs
   |z x=>simp[qCH] at hs
   |q x=>simp[qCH] at hs
  ·omega
 rw[if_neg e19] at hs ⊢
 rw[if_neg e19]
 split at hs<;>rename_i hh
 ·rw[if_pos hh]
  split at hs<;>rename_i h2
  ·rw[if_pos h2];exact ⟨rfl,qLY _⟩
  ·exact absurd rfl hs
 ·exact absurd rfl hs
structure Ht (m:Nat) (r:Rat):Prop where
 num:(dd r.num.natAbs).length<=m
 den:(dd r.den).length<=m
theorem Ht.mono {m k:Nat} {r:Rat} (h:Ht m r) (hk:m<=k):Ht k r:=⟨by have:=h.num;omega,by have:=h.den;omega⟩
theorem Ht.D {m:Nat} {r:Rat} (h:Ht m r):D r<=2 * m:=by have:=h.num;have:=h.den;unfold Num.D;omega
theorem qNq {m:Nat} {r:Rat} (h:D r<=m):Ht m r:=by unfold Num.D at h;exact ⟨by omega,by omega⟩
theorem qZap {n:Int} {d m:Nat} (hd:d≠0) (h1:(dd n.natAbs).length<=m) (h2:(dd d).length<=m):Ht m (mkRat n d):=by
 have e1:(n / (d.gcd n.natAbs:Nat)).natAbs<=n.natAbs:=by
  obtain ⟨k,hk⟩:((d.gcd n.natAbs:Nat):Int) ∣ n:=by
   have:=Nat.gcd_dvd_right d n.natAbs
   exact Int.ofNat_dvd_left.2 this
  have hg:((d.gcd n.natAbs:Nat):Int)≠0:=fun e=>hd (Nat.gcd_eq_zero_iff.1 (by exact_mod_cast e)).1
  have e1:n / (d.gcd n.natAbs:Nat)=k:=by
   conv=>lhs;lhs;rw[hk]
   exact Int.mul_ediv_cancel_left _ hg
  rw[e1]
  conv=>rhs;rw[hk,Int.natAbs_mul]
  exact Nat.le_mul_of_pos_left _ (by omega)
 have e2:=Nat.div_le_self d (d.gcd n.natAbs)
 have:=qEB e1
 have:=qEB e2
 refine ⟨?_,?_⟩
 ·rw[Rat.num_mkRat,if_neg hd];omega
 ·rw[Rat.den_mkRat,if_neg hd];omega
theorem qYaj {m k:Nat} {p q:Rat} (hp:Ht m p) (hq:Ht k q):Ht (m+k+1) (p+q):=by
 rw[Rat.add_def']
 have h1:=qEB (qGY (p.num * q.den) (q.num * p.den))
 have h2:=qCR (p.num * q.den).natAbs (q.num * p.den).natAbs
 rw[Int.natAbs_mul,Int.natAbs_mul,Int.natAbs_natCast,Int.natAbs_natCast] at h1 h2
 have h3:=qEC p.num.natAbs q.den
 have h4:=qEC q.num.natAbs p.den
 have h5:=qEC p.den q.den
 have:=hp.num;have:=hp.den;have:=hq.num;have:=hq.den
 exact qZap (Nat.mul_ne_zero p.den_nz q.den_nz) (by omega) (by omega)
theorem qNap {m k:Nat} {p q:Rat} (hp:Ht m p) (hq:Ht k q):Ht (m+k) (p * q):=by
 rw[Rat.mul_def']
 have h1:=qEC p.num.natAbs q.num.natAbs
 have h5:=qEC p.den q.den
 have:=hp.num;have:=hp.den;have:=hq.num;have:=hq.den
 exact qZap (Nat.mul_ne_zero p.den_nz q.den_nz) (by rw[Int.natAbs_mul];omega) (by omega)
theorem qET {m:Nat} {n:Int} (h:(dd n.natAbs).length<=m):Ht m (n:Rat):=by
 refine ⟨by rw[Rat.num_intCast];exact h,?_⟩
 rw[Rat.den_intCast,qQS]
 have:=qKO n.natAbs
 simp;omega
theorem qDn {m:Nat} {r:Rat} (h:Ht m r):Ht m ((r.num:Int):Rat):=qET h.num
theorem qQak {m:Nat} {x y:Int} (h:Ht m (x:Rat)) (hy:y.natAbs<=x.natAbs):Ht m (y:Rat):=by
 have:=h.num
 rw[Rat.num_intCast] at this
 exact qET (by have:=qEB hy;omega)
def Bdd (B:Nat):SV->Prop
 |.b _=>True
 |.z n=>Ht B (n:Rat)
 |.q r=>Ht B r
 |.a d P=>Ht B (d:Rat)/\(∀ p∈P,Ht B (p.1:Rat)/\Ht B (p.2:Rat))/\P.length<=B
theorem Bdd.mono {B C:Nat} {v:SV} (h:Bdd B v) (hc:B<=C):Bdd C v:=by
 cases v with
 |b _=>trivial
 |z n=>exact Ht.mono h hc
 |q r=>exact Ht.mono h hc
 |a d P=>
  obtain ⟨h1,h2,h3⟩:=h
  exact ⟨h1.mono hc,fun p hp=>⟨(h2 p hp).1.mono hc,(h2 p hp).2.mono hc⟩,by omega⟩
theorem qNS {B:Nat} {v:SV} (h:Bdd B v) (hB:1<=B):Ht B (qRU v):=by
 have h0:Ht B ((0:Int):Rat):=qET (by simp[qFD];exact hB)
 cases v with
 |b _=>exact h0
 |z n=>exact h
 |q r=>exact h
 |a d P=>exact h0
theorem qSm {B:Nat} {v:SV} (h:Bdd B v) (hB:1<=B):Ht B ((intV v:Int):Rat):=qDn (qNS h hB)
def Hs:List SV->Nat->Prop
 |[],_=>True
 |v::vs,B=>∃ b c,1<=b/\Bdd b v/\Hs vs c/\b+1+c<=B
theorem Hs.mono {vs:List SV} {B C:Nat} (h:Hs vs B) (hc:B<=C):Hs vs C:=by
 cases vs with
 |nil=>trivial
 |cons v vs=>obtain ⟨b,c,h1,h2,h3,h4⟩:=h;exact ⟨b,c,h1,h2,h3,by omega⟩
theorem Hs.mem:∀ {vs:List SV} {B:Nat},Hs vs B->∀ v∈vs,Bdd B v:=by
 intro vs
 induction vs with
 |nil=>intro B _ v hv;cases hv
 |cons w vs ih=>
  intro B h v hv
  obtain ⟨b,c,h1,h2,h3,h4⟩:=h
  rcases List.mem_cons.1 hv with rfl | hv
  ·exact h2.mono (by omega)
  ·exact (ih h3 v hv).mono (by omega)
theorem Hs.sum:∀ {vs:List SV} {a B:Nat} {r:Rat},Ht a r->Hs vs B->Ht (a+B) (vs.foldl (fun s v=>s+qRU v) r):=by
 intro vs
 induction vs with
 |nil=>intro a B r h _;exact h.mono (by omega)
 |cons w vs ih=>
  intro a B r h hs
  obtain ⟨b,c,h1,h2,h3,h4⟩:=hs
  exact (ih (qYaj h (qNS h2 h1)) h3).mono (by omega)
theorem Hs.get {vs:List SV} {B:Nat} (h:Hs vs B) (i:Nat):Bdd B (vs.getD i (.b false)):=by
 rw[qZ4]
 cases hi:vs[i]? with
 |none=>trivial
 |some v=>exact h.mem v (qY14 hi)
theorem qPai (i:Int):∀ P:KV,(lo i P).length+(hi i P).length<=P.length:=by
 intro P
 induction P with
 |nil=>simp[lo,hi]
 |cons p P ih=>
  simp only[lo,hi] at ih
  simp only[lo,hi,List.filter_cons]
  by_cases h1:p.1 < i
  ·rw[if_pos (qZ10 h1),if_neg (by simp;omega)];simp;omega
  ·rw[if_neg (by simp;omega)]
   split<;>simp<;>omega
theorem qOp {B:Nat} {r:Rat} (s:Int) (h:Ht B r):Bdd B (qEu s r):=by unfold qEu;split;exact qDn h;exact h
theorem qWap {n:Nod} {vs:List SV} {B:Nat} (hB:Hs vs B) (hn:Ht 75 (qXg n)):Bdd (B+79) (opV n vs):=by
 have g:=hB.get
 have gi:∀ i,Ht (B+1) ((intV (vs.getD i (.b false)):Int):Rat):=fun i=>qSm ((g i).mono (by omega)) (by omega)
 have gv:∀ i,Ht (B+1) (qRU (vs.getD i (.b false))):=fun i=>qNS ((g i).mono (by omega)) (by omega)
 unfold opV
 by_cases c0:nOp n=1\/nOp n=7
 ·rw[if_pos c0];trivial
 rw[if_neg c0]
 by_cases c1:nOp n=2\/nOp n=8
 ·rw[if_pos c1];trivial
 rw[if_neg c1]
 by_cases c2:nOp n=6
 ·rw[if_pos c2];trivial
 rw[if_neg c2]
 by_cases c3:nOp n=9
 ·rw[if_pos c3];trivial
 rw[if_neg c3]
 by_cases c4:nOp n=10
 ·rw[if_pos c4]
  split<;>exact (g _).mono (by omega)
 rw[if_neg c4]
 by_cases c5:nOp n=11
 ·rw[if_pos c5];trivial
 rw[if_neg c5]
 by_cases c6:nOp n=12
 ·rw[if_pos c6];trivial
 rw[if_neg c6]
 by_cases c7:nOp n=13
 ·rw[if_pos c7];trivial
 rw[if_neg c7]
 by_cases c8:nOp n=3
 ·rw[if_pos c8];exact qOp _ (hn.mono (by omega))
 rw[if_neg c8]
 by_cases c9:nOp n=14
 ·rw[if_pos c9]
  have h0:Ht 1 (0:Rat):=qET (n:=0) (by simp[qFD])
  exact qOp _ ((hB.sum h0).mono (by omega))
 rw[if_neg c9]
 by_cases c10:nOp n=15
 ·rw[if_pos c10]
  refine qOp _ ?_
  rcases vs with _ | ⟨a,_ | ⟨b,l⟩⟩
  ·simp only[List.getD_nil,qRU]
   rw[Rat.zero_mul]
   exact qET (n:=0) (by simp[qFD])
  ·simp only[qZ2,List.getD_nil,qRU]
   rw[Rat.mul_zero]
   exact qET (n:=0) (by simp[qFD])
  ·obtain ⟨x,c,h1,h2,⟨y,c2,h5,h6,h7,h8⟩,h4⟩:=hB
   simp only[qZ2,qZ3]
   exact (qNap (qNS h2 h1) (qNS h6 h5)).mono (by omega)
 rw[if_neg c10]
 by_cases c11:nOp n=16
 ·rw[if_pos c11]
  have:(intV (vs.getD 0 (.b false)) / (qXg n).num).natAbs<=(intV (vs.getD 0 (.b false))).natAbs:=by
   have h:=Int.natAbs_ediv_le_natAbs (intV (vs.getD 0 (.b false))) (qXg n).num
   exact h
  exact (qQak (gi 0) this).mono (by omega)
 rw[if_neg c11]
 by_cases c12:nOp n=17
 ·rw[if_pos c12]
  by_cases hz:(qXg n).num=0
  ·rw[hz,Int.emod_zero];exact (gi 0).mono (by omega)
  ·have:(intV (vs.getD 0 (.b false)) % (qXg n).num).natAbs<=(qXg n).num.natAbs:=by
    have h1:=Int.emod_nonneg (intV (vs.getD 0 (.b false))) hz
    have h2:=Int.emod_lt (intV (vs.getD 0 (.b false))) hz
    omega
   exact (qQak (qDn hn) this).mono (by omega)
 rw[if_neg c12]
 by_cases c13:nOp n=18
 ·rw[if_pos c13]
  have ga:=g 0
  generalize vs.getD 0 (.b false)=v at ga
  cases v with
  |a d P=>
   obtain ⟨h1,h2,h3⟩:=ga
   have:atP d P (intV (vs.getD 1 (.b false)))=d\/∃ p∈P,atP d P (intV (vs.getD 1 (.b false)))=p.2:=by
    unfold atP
    cases hf:P.find? fun p=>decide (p.1=intV (vs.getD 1 (.b false))) with
    |none=>exact .inl rfl
    |some p=>exact .inr ⟨p,List.mem_of_find?_eq_some hf,rfl⟩
   simp only[atS]
   rcases this with e | ⟨p,hp,e⟩
   ·rw[e];exact h1.mono (by omega)
   ·rw[e];exact (h2 p hp).2.mono (by omega)
  |b _=>exact qET (n:=0) (by simp[qFD])
  |z _=>exact qET (n:=0) (by simp[qFD])
  |q _=>exact qET (n:=0) (by simp[qFD])
 rw[if_neg c13]
 by_cases c14:nOp n=19
 ·rw[if_pos c14]
  have ga:=g 0
  generalize vs.getD 0 (.b false)=v at ga
  cases v with
  |a d P=>
   obtain ⟨h1,h2,h3⟩:=ga
   simp only[stS]
   refine ⟨h1.mono (by omega),fun p hp=>?_,?_⟩
   ·unfold stP at hp
    rcases List.mem_append.1 hp with hp | hp
    ·rcases List.mem_append.1 hp with hp | hp
     ·have:=h2 p (qWh.1 hp).1;exact ⟨this.1.mono (by omega),this.2.mono (by omega)⟩
     ·split at hp
      ·cases hp
      ·rw[List.mem_singleton.1 hp];exact ⟨(gi 1).mono (by omega),(gi 2).mono (by omega)⟩
    ·have:=h2 p (qFm.1 hp).1;exact ⟨this.1.mono (by omega),this.2.mono (by omega)⟩
   ·have e:=qPai (intV (vs.getD 1 (.b false))) P
    unfold stP
    simp only[qZ6]
    split<;>simp only[List.length_nil,qY11]<;>omega
  |b _=>trivial
  |z _=>exact Ht.mono ga (by omega)
  |q _=>exact Ht.mono ga (by omega)
 rw[if_neg c14]
 ·exact ⟨(gi 0).mono (by omega),fun p hp=>absurd hp qY16,Nat.zero_le _⟩
end Go.AM.Num
end
section
namespace Go.AM.Num
open Tf
noncomputable def evN (A:qBs->Option SV) (G:Nod->List SV->Int ⊕ SV) (n:Nod) (vs:List SV):Int ⊕ SV:=
 if nOp n=4 then (match A (qSP n) with | none=>.inl 7 | some v=>if qCH v=qJG n then .inr v else .inl 3)
 else if nOp n=5 then G n vs
 else .inr (opV n vs)
noncomputable def evF (A:qBs->Option SV) (G:Nod->List SV->Int ⊕ SV):Tf->Int ⊕ List SV
 |.nil=>.inr []
 |.cons n k r=>match evF A G k with
  |.inl e=>.inl e
  |.inr vs=>match evN A G n vs with
   |.inl e=>.inl e
   |.inr v=>match evF A G r with
    |.inl e=>.inl e
    |.inr ws=>.inr (v::ws)
structure EA (A:qBs->Option SV) (G:Nod->List SV->Int ⊕ SV):Prop where
 ok:∀ nm v,A nm=some v->okS v/\Bdd 75 v
 fn:∀ n vs v,G n vs=.inr v->okS v/\Bdd 75 v/\qCH v=qJG n
 er:∀ n vs e,G n vs=.inl e->e≠0
def qKf (f:Tf):Prop:=∀ n∈f.flat,(qSS n).length<=73
theorem qRz {n:Nod} (h:(qSS n).length<=73):Ht 75 (qXg n):=by
 unfold qXg
 cases hr:rd (qSS n) with
 |none=>exact qET (n:=0) (by simp[qFD])
 |some q=>
  have e:=qFP hr
  have:=D_le q
  rw[<-e] at this
  exact qNq (r:=q) (by omega)
theorem qWW {n:Nod}:okN n=true ↔ qRC n=true/\qHB (nOp n) (qEF n)=true:=by unfold okN;rw[qY0]
theorem qUB {A:qBs->Option SV} {G:Nod->List SV->Int ⊕ SV} (hE:EA A G):∀ (F:Tf),F.wf=true->(0:Int)∉F.srt->qKf F->∀ vs,evF A G F=.inr vs->vs.map qCH=F.srt/\(∀ v∈vs,okS v)/\Hs vs (80 * F.size):=by
 intro F
 induction F with
 |nil=>
  intro _ _ _ vs h
  simp only[evF,Sum.inr.injEq] at h
  subst h
  exact ⟨rfl,fun v hv=>(by cases hv),trivial⟩
 |cons n k r ik ir=>
  intro hw hs hn vs h
  obtain ⟨w1,w2,w3,w4⟩:=qGJ.1 hw
  obtain ⟨s1,s2,s3⟩:=qWM.1 hs
  have hnk:qKf k:=fun m hm=>hn m (by simp only[flat,qY12,qZ7];exact .inr (.inl hm))
  have hnr:qKf r:=fun m hm=>hn m (by simp only[flat,qY12,qZ7];exact .inr (.inr hm))
  have hnn:=qRz (hn n (by simp[flat]))
  simp only[evF] at h
  split at h
  ·cases h
  rename_i ks hk
  obtain ⟨k1,k2,k3⟩:=ik w3 s1 hnk _ hk
  split at h
  ·cases h
  rename_i v hv
  split at h
  ·cases h
  rename_i ws hr
  obtain ⟨r1,r2,r3⟩:=ir w4 s3 hnr _ hr
  simp only[Sum.inr.injEq] at h
  subst h
  have key:qCH v=qXC n (op1 k) k.srt/\okS v/\Bdd (80 * k.size+79) v:=by
   unfold evN at hv
   split at hv
   ·rename_i h4
    split at hv
    ·cases hv
    rename_i u hu
    split at hv
    ·rename_i e
     simp only[Sum.inr.injEq] at hv
     subst hv
     obtain ⟨a1,a2⟩:=hE.ok _ _ hu
     exact ⟨by rw[e];unfold qXC;rw[if_pos (by omega)],a1,a2.mono (by omega)⟩
    ·cases hv
   ·rename_i h4
    split at hv
    ·rename_i h5
     obtain ⟨a1,a2,a3⟩:=hE.fn _ _ _ hv
     exact ⟨by rw[a3];unfold qXC;rw[if_pos (by omega)],a1,a2.mono (by omega)⟩
    ·rename_i h5
     simp only[Sum.inr.injEq] at hv
     subst hv
     obtain ⟨f1,f2⟩:=qWW.1 w1
     have hl:(ks.length:Int)=qEF n:=by
      have:=congrArg List.length k1
      rw[List.length_map,qEM] at this
      omega
     obtain ⟨a1,a2⟩:=qOal (f:=op1 k) f1 h4 h5 (by rw[hl];exact f2) (by rw[k1];exact s2) k2
     rw[k1] at a1
     exact ⟨a1,a2,qWap k3 hnn⟩
  obtain ⟨q1,q2,q3⟩:=key
  refine ⟨?_,?_,?_⟩
  ·simp only[List.map_cons,srt,r1,q1]
   rw[if_neg s1]
  ·intro u hu
   rcases List.mem_cons.1 hu with rfl | hu
   ·exact q2
   ·exact r2 u hu
  ·exact ⟨80 * k.size+79,80 * r.size,by omega,q3,r3,by simp only[size];omega⟩
theorem qFan {vs:List SV} {i:Nat} (h:i < vs.length):(vs.map encS).getD i qKK=encS (vs.getD i (.b false)):=by
 simp[qZ4,h]
theorem qWU (v:SV):(encS v).2.1=isT v:=by cases v<;>rfl
theorem qIW {v:SV} (h:qCH v=2\/qCH v=3):(encS v).2.2.1=txt (qRU v):=by
 cases v with
 |z n=>rfl
 |q r=>rfl
 |b x=>simp[qCH] at h
 |a d P=>simp[qCH] at h
theorem qJR {v:SV} (h:qCH v=2):v=.z (intV v)/\(encS v).2.2.1=ti (intV v)/\qRU v=(intV v:Rat):=by
 cases v with
 |z n=>
  have e:intV (.z n)=n:=by unfold intV qRU;exact Rat.num_intCast n
  rw[e];exact ⟨rfl,rfl,rfl⟩
 |q r=>simp[qCH] at h
 |b x=>simp[qCH] at h
 |a d P=>simp[qCH] at h
theorem qLab {v:SV} (h:qCH v=4):∃ d P,v=.a d P:=by
 cases v with
 |z n=>simp[qCH] at h
 |q r=>simp[qCH] at h
 |b x=>simp[qCH] at h
 |a d P=>exact ⟨d,P,rfl⟩
theorem qXj {s:Int} {r:Rat} (hs:s=2\/s=3) (h:s=2->r.den=1):encS (qEu s r)=(s,false,txt r,[],[]):=by
 unfold qEu
 split
 ·rename_i e
  have:=qNj (h e)
  rw[e]
  simp only[encS,ti]
  rw[<-this]
 ·have:s=3:=by omega
  rw[this];rfl
theorem qXal {α:Type} (p:α->Bool) (l:List α):(l.all fun x=>!p x)=!l.any p:=by
 induction l with
 |nil=>rfl
 |cons a l ih=>simp only[List.all_cons,List.any_cons,ih,Bool.not_or]
theorem qEZ {st:(List Val)×Unit×Int×Int×Int×Unit->Option (Ex×((List Val)×Unit×Int×Int×Int×Unit))} {l:List Val} {p:Val->Bool} (hl:l.length<=1000000000)
 (hg:∀ k,k < l.length->st (l,(),0,(l.length:Int),(k:Int),())=some (if p (l.getD k qKK) then (.ret,(l,(),(k:Int),(l.length:Int),(k:Int),())) else (.normal,(l,(),0,(l.length:Int),((k+1:Nat):Int),()))))
 (he:st (l,(),0,(l.length:Int),(l.length:Int),())=some (.exit 0,(l,(),0,(l.length:Int),(l.length:Int),()))) :
 (l.any p=false/\qPA st (l,(),0,(l.length:Int),0,())=some (.exit 0,(l,(),0,(l.length:Int),(l.length:Int),())))\/(l.any p=true/\∃ k:Nat,qPA st (l,(),0,(l.length:Int),0,())=some (.ret,(l,(),(k:Int),(l.length:Int),(k:Int),()))):=by
 have key:=qCL (step:=st) (fun k=>(l,(),(0:Int),(l.length:Int),(k:Int),())) (fun k=>(l,(),(k:Int),(l.length:Int),(k:Int),())) l.length (E:=.exit 0) (B:=.ret) (by simp) (by simp) (fun k=>!p (l.getD k qKK)) (fun k hk=>by
  rw[hg k hk]
  cases p (l.getD k qKK)<;>rfl) he
 rw[qVQ l qKK (fun x=>!p x)] at key
 rw[qXal] at key
 rcases key with ⟨k1,k2⟩ | ⟨k1,k,k2⟩
 ·exact .inl ⟨by simpa using k1,k2⟩
 ·exact .inr ⟨by simpa using k1,k,k2⟩
theorem qTn {l:List Val} (hl:l.length<=1000000000):qGB l ()=some ((l.any fun v=>!v.2.1,()),()):=by
 have key:=qEZ (st:=qFB) (p:=fun v=>!v.2.1) hl (fun k hk=>by
  unfold qFB
  simp only
  rw[qIA (by omega),qEA,qBA (by omega),qBA (by omega),qZ0,w64 (by omega)]
  unfold qIp
  rw[qAA]
  cases (l.getD k qKK).2.1<;>rfl) (by
  unfold qFB
  simp only
  rw[qOA (by omega)])
 unfold qGB qMD
 rcases key with ⟨k1,k2⟩ | ⟨k1,k,k2⟩
 ·rw[k2,k1];rfl
 ·rw[k2,k1]
  simp only[qAA,qDF,qCF,qRA,qVA]
  rw[qZ10 (by omega)]
theorem qWp {l:List Val} (hl:l.length<=1000000000):qJB l ()=some ((l.any fun v=>v.2.1,()),()):=by
 have key:=qEZ (st:=qIB) (p:=fun v=>v.2.1) hl (fun k hk=>by
  unfold qIB
  simp only
  rw[qIA (by omega),qEA,qBA (by omega),qBA (by omega),qZ0,w64 (by omega)]
  unfold v_is
  rw[qAA]
  cases (l.getD k qKK).2.1<;>rfl) (by
  unfold qIB
  simp only
  rw[qOA (by omega)])
 unfold qJB qUD
 rcases key with ⟨k1,k2⟩ | ⟨k1,k,k2⟩
 ·rw[k2,k1];rfl
 ·rw[k2,k1]
  simp only[qAA,qDF,qCF,qRA,qVA]
  rw[qZ10 (by omega)]
theorem qTan (vs:List SV):((vs.map encS).any fun v=>!v.2.1)=!vs.all isT:=by
 induction vs with
 |nil=>rfl
 |cons v vs ih=>simp only[List.map_cons,List.any_cons,List.all_cons,ih,qWU,Bool.not_and]
theorem qJap (vs:List SV):((vs.map encS).any fun v=>v.2.1)=vs.any isT:=by
 induction vs with
 |nil=>rfl
 |cons v vs ih=>simp only[List.map_cons,List.any_cons,ih,qWU]
theorem qOaj (l1:List Val) (t4:Val) (L:List SV) (hL:L.length<=100000):∀ (vs pre:List SV) (a B:Nat) (r:Rat),L=pre++vs->(∀ v∈vs,qCH v=2\/qCH v=3)->Ht a r->Hs vs B->a+B<=400000->
 qPA qNM (l1,t4,txt r,L.map encS,(L.length:Int),(pre.length:Int),())=some (.exit 1,(l1,t4,txt (vs.foldl (fun s v=>s+qRU v) r),L.map encS,(L.length:Int),(L.length:Int),())):=by
 intro vs
 induction vs with
 |nil=>
  intro pre a B r hL' _ _ _ _
  have:pre.length=L.length:=by rw[hL'];simp
  refine qWA ?_ (by simp)
  unfold qNM
  simp only
  rw[qOA (by omega),this]
  rfl
 |cons w vs ih=>
  intro pre a B r hL' hs hr hB hab
  obtain ⟨b,c,h1,h2,h3,h4⟩:=hB
  have hlen:L.length=pre.length+(vs.length+1):=by rw[hL'];simp
  have hg:(L.map encS).getD pre.length qKK=encS w:=by
   rw[qFan (by omega),hL'];simp[qZ4]
  have hw:=qNS h2 h1
  rw[qAB (y:=(l1,t4,txt (r+qRU w),L.map encS,(L.length:Int),((pre++[w]).length:Int),())) (by
   unfold qNM
   simp only
   rw[qIA (by omega),qEA,qBA (by omega),qBA (by rw[List.length_map];omega),qZ0,hg,qIW (hs w (by simp)),qYas (by have:=hr.D;omega) (by have:=hw.D;omega),qAA,w64 (by omega)]
   simp)]
  rw[ih (pre++[w]) (a+b+1) c (r+qRU w) (by rw[hL'];simp) (fun v hv=>hs v (by simp[hv])) (qYaj hr hw) h3 (by omega)]
  rfl
end Go.AM.Num
end
section
namespace Go.AM.Num
open Tf
theorem qEaq (p q:Rat):(p - q).num.sign<=0 ↔ p<=q:=by
 have h1:(p - q).num.sign<=0 ↔ 0<=(-(p - q)).num:=by
  rw[Rat.neg_num]
  rcases Int.lt_trichotomy (p - q).num 0 with h | h | h
  ·rw[Int.sign_eq_neg_one_of_neg h];omega
  ·rw[h];simp
  ·rw[Int.sign_eq_one_of_pos h];omega
 rw[h1,Rat.num_nonneg]
 grind
theorem qGap (p q:Rat):(p - q).num.sign < 0 ↔ p < q:=by
 have h1:(p - q).num.sign < 0 ↔ ¬ 0<=(p - q).num:=by
  rw[qCq];omega
 rw[h1,Rat.num_nonneg]
 grind
theorem qIac {m:Nat} {z:Int} (h:Ht m (z:Rat)):(ti z).length<=m+1:=by
 have h1:=h.num
 rw[Rat.num_intCast] at h1
 have:=qJv (n:=z)
 unfold ti;omega
theorem qLaq {B:Nat} {d:Int} {P:KV} (h:Bdd B (.a d P)) (hB:B<=99999):Sm 100000 d P:=by
 obtain ⟨h1,h2,h3⟩:=h
 exact ⟨by have:=qIac h1;omega,fun p hp=>⟨by have:=qIac (h2 p hp).1;omega,by have:=qIac (h2 p hp).2;omega⟩,by omega⟩
theorem qGal:∀ (vs:List SV) (r:Rat),r.den=1->(∀ v∈vs,qCH v=2)->(vs.foldl (fun s v=>s+qRU v) r).den=1:=by
 intro vs
 induction vs with
 |nil=>intro r h _;exact h
 |cons v vs ih=>
  intro r h hv
  refine ih _ ?_ fun w hw=>hv w (by simp[hw])
  show (r+qRU v).den=1
  rw[qNj h,(qJR (hv v (by simp))).2.2,<-Rat.intCast_add,Rat.den_intCast]
theorem qBaf {n:Nod} (hf:qRC n=true) (ho:nOp n=16\/nOp n=17):∃ m:Int,0 < m/\qSS n=txt (m:Rat)/\(qXg n).num=m:=by
 unfold qRC at hf
 rw[if_neg (by omega),if_neg (by omega),if_pos ho] at hf
 simp only[qY0,decide_eq_true_eq] at hf
 obtain ⟨⟨_,h1⟩,h2⟩:=hf
 obtain ⟨m,h3,h4⟩:=qHS h1
 refine ⟨m,?_,h3,by unfold qXg;rw[h4];exact Rat.num_intCast m⟩
 unfold qTa at h2
 rw[h4] at h2
 simp only[Rat.num_intCast] at h2
 rcases Int.lt_trichotomy m 0 with h | h | h
 ·rw[Int.sign_eq_neg_one_of_neg h] at h2;omega
 ·rw[h] at h2;simp at h2
 ·exact h
theorem qAz {n:Nod} (hf:qRC n=true) (ho:nOp n=3):(qJG n=2\/qJG n=3)/\qSS n=txt (qXg n)/\(qJG n=2->(qXg n).den=1):=by
 unfold qRC at hf
 rw[if_pos ho] at hf
 simp only[qY0,Bool.or_eq_true,decide_eq_true_eq] at hf
 unfold qXg
 rcases hf.2 with ⟨h1,h2⟩ | ⟨h1,h2⟩
 ·obtain ⟨m,h3,h4⟩:=qHS h2
  rw[h4]
  exact ⟨.inl h1,h3,fun _=>Rat.den_intCast m⟩
 ·obtain ⟨q,h3⟩:=Option.isSome_iff_exists.1 h2
  rw[h3]
  exact ⟨.inr h1,qFP h3,fun e=>by omega⟩
theorem i0:(0:Int).toNat=0:=rfl
theorem i1:(1:Int).toNat=1:=rfl
theorem i2:(2:Int).toNat=2:=rfl
theorem qUm {n:Nod} {vs:List SV} {B:Nat} {f:Int} (hn:qRC n=true) (h4:nOp n≠4) (h5:nOp n≠5) (hbig:nOp n=3\/14<=nOp n) (hc:qHB (nOp n) vs.length=true) (hs:qXC n f (vs.map qCH)≠0)
 (hok:∀ v∈vs,okS v) (hB:Hs vs B) (hB9:B<=90000) (hnn:Ht 75 (qXg n)) (hl:vs.length<=100000):qGX n (vs.map encS)=some ((encS (opV n vs),()),()):=by
 have hop:1<=nOp n/\nOp n<=20:=by
  unfold qRC at hn
  split at hn
  ·omega
  ·split at hn
   ·omega
   ·split at hn
    ·omega
    ·simp only[qY0,decide_eq_true_eq] at hn
     exact hn.1.1.1
 unfold qGX
 have hO:n.1=nOp n:=rfl
 have hN:n.2.2.2.1=qSS n:=rfl
 have hS:n.2.1=qJG n:=rfl
 rw[hO,hN,hS]
 by_cases e3:nOp n=3
 ·rw[qHA e3]
  obtain ⟨a1,a2,a3⟩:=qAz hn e3
  have:opV n vs=qEu (qJG n) (qXg n):=by unfold opV;simp[e3]
  rw[this,qXj a1 a3,a2]
  rfl
 rw[qDA e3]
 have hv:opV n vs=if nOp n=14 then qEu (qCH (vs.getD 0 (.b false))) (sumQ vs)
  else if nOp n=15 then qEu (qCH (vs.getD 0 (.b false))) (qRU (vs.getD 0 (.b false)) * qRU (vs.getD 1 (.b false)))
  else if nOp n=16 then .z (intV (vs.getD 0 (.b false)) / (qXg n).num)
  else if nOp n=17 then .z (intV (vs.getD 0 (.b false)) % (qXg n).num)
  else if nOp n=18 then .z (atS (vs.getD 0 (.b false)) (intV (vs.getD 1 (.b false))))
  else if nOp n=19 then stS (vs.getD 0 (.b false)) (intV (vs.getD 1 (.b false))) (intV (vs.getD 2 (.b false)))
  else .a (intV (vs.getD 0 (.b false))) []:=by
  unfold opV
  rw[if_neg (by omega),if_neg (by omega),if_neg (by omega),if_neg (by omega),if_neg (by omega),if_neg (by omega),if_neg (by omega),if_neg (by omega),if_neg e3]
 rw[hv]
 have hst:qXC n f (vs.map qCH)=if nOp n=14 then (if ((vs.map qCH).getD 0 0=2\/(vs.map qCH).getD 0 0=3)/\∀ s∈vs.map qCH,s=(vs.map qCH).getD 0 0 then (vs.map qCH).getD 0 0 else 0)
  else if nOp n=15 then (if f=3/\((vs.map qCH).getD 0 0=2\/(vs.map qCH).getD 0 0=3)/\∀ s∈vs.map qCH,s=(vs.map qCH).getD 0 0 then (vs.map qCH).getD 0 0 else 0)
  else if nOp n=16\/nOp n=17 then (if (vs.map qCH).getD 0 0=2 then 2 else 0)
  else if nOp n=18 then (if (vs.map qCH).getD 0 0=4/\(vs.map qCH).getD 1 0=2 then 2 else 0)
  else if nOp n=19 then (if (vs.map qCH).getD 0 0=4/\(vs.map qCH).getD 1 0=2/\(vs.map qCH).getD 2 0=2 then 4 else 0)
  else if nOp n=20 then (if (vs.map qCH).getD 0 0=2 then 4 else 0) else 0:=by
  unfold qXC
  rw[if_neg (by omega),if_neg (by omega),if_neg (by omega),if_neg (by omega),if_neg (by omega)]
 rw[hst] at hs
 clear hv hst
 by_cases e14:nOp n=14
 ·rw[e14] at hc
  rw[if_pos e14] at hs
  rw[qHA e14,if_pos e14]
  rcases vs with _ | ⟨a,l⟩
  ·simp[qHB] at hc
  ·simp only[List.map_cons,qZ3] at hs ⊢
   split at hs
   ·rename_i hh
    obtain ⟨g1,g2⟩:=hh
    have hall:∀ v∈a::l,qCH v=qCH a:=fun v hv=>g2 (qCH v) (by
     rcases List.mem_cons.1 hv with rfl | hv
     ·simp
     ·exact qY13 _ (List.mem_map_of_mem hv))
    have h0:Ht 1 ((0:Int):Rat):=qET (by simp[qFD])
    have key:=qOaj (encS a::l.map encS) ((0:Int),false,([]:qBs),([]:List qBs),([]:List qBs)) (a::l) hl (a::l) [] 1 B ((0:Int):Rat) rfl (fun v hv=>by rw[hall v hv];exact g1) h0 hB (by omega)
    rw[<-t0] at key
    simp only[List.length_nil,List.map_cons] at key
    rw[show ((0:Nat):Int)=0 from rfl] at key
    have hlen:(encS a::l.map encS).length=(a::l).length:=by simp
    rw[hlen,key]
    simp only[qAA,qCC,qRA]
    rw[qEA,qBA (by omega),qBA (by simp),i0,qZ3]
    have:qPK (encS a).1 (txt ((a::l).foldl (fun s v=>s+qRU v) ((0:Int):Rat)))=some (((qCH a,false,txt ((a::l).foldl (fun s v=>s+qRU v) ((0:Int):Rat)),[],[]),()),()):=by rw[qJV];rfl
    rw[this,qAA]
    have e:sumQ (a::l)=(a::l).foldl (fun s v=>s+qRU v) ((0:Int):Rat):=rfl
    rw[e,qXj g1 fun h2=>qGal _ _ (Rat.den_intCast 0) fun v hv=>by rw[hall v hv];exact h2]
   ·exact absurd rfl hs
 rw[if_neg e14] at hs
 rw[qDA e14,if_neg e14]
 by_cases e15:nOp n=15
 ·rw[e15] at hc
  rw[if_pos e15] at hs
  rw[qHA e15,if_pos e15]
  rcases vs with _ | ⟨a,_ | ⟨b,_ | ⟨c,l⟩⟩⟩<;>simp[qHB] at hc
  ·simp only[List.map_cons,List.map_nil,qZ3,qZ2] at hs ⊢
   split at hs
   ·rename_i hh
    obtain ⟨_,g1,g2⟩:=hh
    have hb:qCH b=qCH a:=g2 _ (by simp)
    obtain ⟨x,c,q1,q2,⟨y,c2,q5,q6,q7,q8⟩,q4⟩:=hB
    have ha':=qNS q2 q1
    have hb':=qNS q6 q5
    rw[qEA,qBA (by omega),qBA (by simp),qEA,qBA (by omega),qBA (by simp),qEA,qBA (by omega),qBA (by simp),i0,i1,qZ2,qZ3,qZ3,
     qIW g1,qIW (by rw[hb];exact g1),qQas (by have:=ha'.D;omega) (by have:=hb'.D;omega),qAA,qJV]
    rw[qXj g1 fun h2=>by
     rw[(qJR h2).2.2,(qJR (hb.trans h2)).2.2,<-Rat.intCast_mul,Rat.den_intCast]]
    rfl
   ·exact absurd rfl hs
  ·omega
 rw[if_neg e15] at hs
 rw[qDA e15,if_neg e15]
 by_cases e16:nOp n=16
 ·rw[e16] at hc
  rw[if_pos (.inl e16)] at hs
  rw[qHA e16,if_pos e16]
  obtain ⟨m,m1,m2,m3⟩:=qBaf hn (.inl e16)
  rcases vs with _ | ⟨a,_ | ⟨b,l⟩⟩<;>simp[qHB] at hc
  ·simp only[List.map_cons,List.map_nil,qZ3] at hs ⊢
   split at hs
   ·rename_i hh
    have hi:=qJR hh
    have h1:=(qSm ((hB.mem a (by simp)).mono (Nat.le_add_right B 1)) (by omega)).D
    have h2:=(qDn hnn).D
    rw[m3] at h2
    rw[qEA,qBA (by omega),qBA (by simp),i0,qZ3,hi.2.1,m2,m3]
    unfold ti
    rw[qSas (by omega) (by omega) (by omega),qAA]
    rfl
   ·exact absurd rfl hs
  ·omega
 rw[qDA e16,if_neg e16]
 by_cases e17:nOp n=17
 ·rw[e17] at hc
  rw[if_pos (.inr e17)] at hs
  rw[qHA e17,if_pos e17]
  obtain ⟨m,m1,m2,m3⟩:=qBaf hn (.inr e17)
  rcases vs with _ | ⟨a,_ | ⟨b,l⟩⟩<;>simp[qHB] at hc
  ·simp only[List.map_cons,List.map_nil,qZ3] at hs ⊢
   split at hs
   ·rename_i hh
    have hi:=qJR hh
    have h1:=(qSm ((hB.mem a (by simp)).mono (Nat.le_add_right B 1)) (by omega)).D
    have h2:=(qDn hnn).D
    rw[m3] at h2
    rw[qEA,qBA (by omega),qBA (by simp),i0,qZ3,hi.2.1,m2,m3]
    unfold ti
    rw[qDas (by omega) (by omega) (by omega),qAA]
    rfl
   ·exact absurd rfl hs
  ·omega
 rw[if_neg (by omega)] at hs
 rw[qDA e17,if_neg e17]
 by_cases e18:nOp n=18
 ·rw[e18] at hc
  rw[if_pos e18] at hs
  rw[qHA e18,if_pos e18]
  rcases vs with _ | ⟨a,_ | ⟨b,_ | ⟨c,l⟩⟩⟩<;>simp[qHB] at hc
  ·simp only[List.map_cons,List.map_nil,qZ3,qZ2] at hs ⊢
   split at hs
   ·rename_i hh
    obtain ⟨d,P,rfl⟩:=qLab hh.1
    have hP:Canon d P:=hok _ (List.mem_cons_self)
    have hi:=qJR hh.2
    have hsm:=qLaq (hB.mem (.a d P) (by simp)) (by omega)
    have h1:=qIac (qSm ((hB.mem b (by simp)).mono (Nat.le_add_right B 1)) (by omega))
    rw[qEA,qBA (by omega),qBA (by simp),qEA,qBA (by omega),qBA (by simp),i0,i1,qZ2,qZ3,qZ3,hi.2.1]
    have e:encS (.a d P)=qUH d P:=rfl
    rw[e,qIap (N:=100000) (by omega) hP.incr hsm (by omega),qAA]
    rfl
   ·exact absurd rfl hs
  ·omega
 rw[if_neg e18] at hs
 rw[qDA e18,if_neg e18]
 by_cases e19:nOp n=19
 ·rw[e19] at hc
  rw[if_pos e19] at hs
  rw[qHA e19,if_pos e19]
  rcases vs with _ | ⟨a,_ | ⟨b,_ | ⟨c,_ | ⟨d,l⟩⟩⟩⟩<;>simp[qHB] at hc
  ·simp only[List.map_cons,List.map_nil,qZ3,qZ2] at hs ⊢
   split at hs
   ·rename_i hh
    obtain ⟨d,P,rfl⟩:=qLab hh.1
    have hP:Canon d P:=hok _ (List.mem_cons_self)
    have hi:=qJR hh.2.1
    have hj:=qJR hh.2.2
    have hsm:=qLaq (hB.mem (.a d P) (by simp)) (by omega)
    have h1:=qIac (qSm ((hB.mem b (by simp)).mono (Nat.le_add_right B 1)) (by omega))
    rw[qEA,qBA (by omega),qBA (by simp),qEA,qBA (by omega),qBA (by simp),qEA,qBA (by omega),qBA (by simp),i0,i1,i2,qZ2,qZ2,qZ2,qZ3,qZ3,qZ3,hi.2.1,hj.2.1]
    have e:encS (.a d P)=qUH d P:=rfl
    rw[e,qIaj (N:=100000) (by omega) hP.incr hsm (by omega),qAA]
    rfl
   ·exact absurd rfl hs
  ·omega
 rw[if_neg e19] at hs
 rw[qDA e19,if_neg e19]
 have e20:nOp n=20:=by omega
 rw[e20] at hc
 rw[if_pos e20] at hs
 rcases vs with _ | ⟨a,_ | ⟨b,l⟩⟩<;>simp[qHB] at hc
 ·simp only[List.map_cons,List.map_nil,qZ3] at hs ⊢
  split at hs
  ·rename_i hh
   have hi:=qJR hh
   rw[qEA,qBA (by omega),qBA (by simp),i0,qZ3,hi.2.1]
   rfl
  ·exact absurd rfl hs
 ·omega
end Go.AM.Num
end
section
namespace Go.AM.Num
open Tf
theorem qBai {B:Nat} {a b:SV} (h:Bdd B a) (hB:B<=90000):qTW (encS a) (encS b)=some ((decide (encS a=encS b),()),()):=by
 cases a with
 |a d P=>
  have:=h.2.2
  exact qUU (by simp only[encS,qLF];omega) (by simp only[encS,qNK];omega)
 |b x=>exact qUU (by simp[encS]) (by simp[encS])
 |z x=>exact qUU (by simp[encS]) (by simp[encS])
 |q x=>exact qUU (by simp[encS]) (by simp[encS])
theorem qOan (a b:SV) {i:Decidable (a=b)}:decide (encS a=encS b)=@decide (a=b) i:=by
 rw[decide_eq_decide]
 exact ⟨qNs,fun e=>by rw[e]⟩
theorem qGo {n:Nod} {vs:List SV} {B:Nat} {f:Int} (hn:qRC n=true) (h4:nOp n≠4) (h5:nOp n≠5) (hc:qHB (nOp n) vs.length=true) (hs:qXC n f (vs.map qCH)≠0)
 (hok:∀ v∈vs,okS v) (hB:Hs vs B) (hB9:B<=90000) (hnn:Ht 75 (qXg n)) (hl:vs.length<=100000):qRT n (vs.map encS)=some ((encS (opV n vs),()),()):=by
 have hlm:(vs.map encS).length<=1000000000:=by rw[List.length_map];omega
 have htr:∀ b:Bool,qJN b=some ((encS (.b b),()),()):=fun b=>rfl
 by_cases hbig:nOp n=3\/14<=nOp n
 ·unfold qRT
  have hO:n.1=nOp n:=rfl
  rw[hO,qDA (by omega),qDA (by omega),qDA (by omega),qDA (by omega),qDA (by omega),qDA (by omega),qDA (by omega),qDA (by omega),qDA (by omega),qDA (by omega),
   qUm hn h4 h5 hbig hc hs hok hB hB9 hnn hl,qAA]
 unfold qRT opV
 have hO:n.1=nOp n:=rfl
 rw[hO]
 simp only[qTn hlm,qWp hlm,qTan,qJap,qAA,htr,Bool.not_not]
 by_cases e1:nOp n=1
 ·rw[qHA e1,if_pos (.inl e1)]
 rw[qDA e1]
 by_cases e7:nOp n=7
 ·rw[qHA e7,if_pos (.inr e7)]
 rw[qDA e7,if_neg (by omega)]
 by_cases e2:nOp n=2
 ·rw[qHA e2,if_pos (.inl e2)]
 rw[qDA e2]
 by_cases e8:nOp n=8
 ·rw[qHA e8,if_pos (.inr e8)]
 rw[qDA e8,if_neg (by omega)]
 by_cases e6:nOp n=6
 ·rw[e6] at hc
  rw[qHA e6,if_pos e6]
  rcases vs with _ | ⟨a,_ | ⟨b,l⟩⟩<;>simp[qHB] at hc
  ·simp only[List.map_cons,List.map_nil,qZ3]
   rw[qEA,qBA (by omega),qBA (by simp),i0,qZ3]
   unfold qIp
   rw[qAA,qWU]
  ·omega
 rw[qDA e6,if_neg e6]
 by_cases e9:nOp n=9
 ·rw[e9] at hc
  rw[qHA e9,if_pos e9]
  rcases vs with _ | ⟨a,_ | ⟨b,_ | ⟨c,l⟩⟩⟩<;>simp[qHB] at hc
  ·simp only[List.map_cons,List.map_nil,qZ3,qZ2]
   rw[qEA,qBA (by omega),qBA (by simp),qEA,qBA (by omega),qBA (by simp),i0,i1,qZ2,qZ3,qZ3]
   unfold qIp v_is
   simp only[qAA,qWU,htr]
   cases isT a<;>rfl
  ·omega
 rw[qDA e9,if_neg e9]
 by_cases e10:nOp n=10
 ·rw[e10] at hc
  rw[qHA e10,if_pos e10]
  rcases vs with _ | ⟨a,_ | ⟨b,_ | ⟨c,_ | ⟨d,l⟩⟩⟩⟩<;>simp[qHB] at hc
  ·simp only[List.map_cons,List.map_nil,qZ3,qZ2]
   rw[qEA,qBA (by omega),qBA (by simp),qEA,qBA (by omega),qBA (by simp),qEA,qBA (by omega),qBA (by simp),i0,i1,i2,qZ2,qZ2,qZ2,qZ3,qZ3,qZ3]
   unfold v_is
   simp only[qAA,qWU]
   cases isT a<;>rfl
  ·omega
 rw[qDA e10,if_neg e10]
 by_cases e11:nOp n=11
 ·rw[e11] at hc
  rw[qHA e11,if_pos e11]
  rcases vs with _ | ⟨a,_ | ⟨b,_ | ⟨c,l⟩⟩⟩<;>simp[qHB] at hc
  ·simp only[List.map_cons,List.map_nil,qZ3,qZ2]
   rw[qEA,qBA (by omega),qBA (by simp),qEA,qBA (by omega),qBA (by simp),i0,i1,qZ2,qZ3,qZ3,qBai (hB.mem a (by simp)) hB9,qAA]
   simp only[qZ3,qZ2]
   exact congrArg (fun x=>some ((encS (SV.b x),()),())) (qOan a b)
  ·omega
 rw[qDA e11,if_neg e11]
 have hnum:nOp n=12\/nOp n=13->∃ a b,vs=[a,b]/\(qCH a=2\/qCH a=3)/\(qCH b=2\/qCH b=3):=by
  intro ho
  have hc2:vs.length=2:=by
   rcases ho with ho | ho<;>rw[ho] at hc<;>simp[qHB] at hc<;>omega
  unfold qXC at hs
  rw[if_neg (by omega),if_neg (by omega),if_neg (by omega),if_neg (by omega),if_pos ho] at hs
  rcases vs with _ | ⟨a,_ | ⟨b,_ | ⟨c,l⟩⟩⟩<;>simp at hc2
  ·simp only[List.map_cons,List.map_nil,qZ3] at hs
   split at hs
   ·rename_i hh
    have hb:qCH b=qCH a:=hh.2 _ (by simp)
    exact ⟨a,b,rfl,hh.1,by rw[hb];exact hh.1⟩
   ·exact absurd rfl hs
 by_cases e12:nOp n=12
 ·obtain ⟨a,b,rfl,ha,hb⟩:=hnum (.inl e12)
  have qa:=(qNS ((hB.mem a (by simp)).mono (Nat.le_add_right B 1)) (by omega)).D
  have qb:=(qNS ((hB.mem b (by simp)).mono (Nat.le_add_right B 1)) (by omega)).D
  rw[qHA e12,if_pos e12]
  simp only[List.map_cons,List.map_nil,qZ3,qZ2]
  rw[qEA,qBA (by omega),qBA (by simp),qEA,qBA (by omega),qBA (by simp),i0,i1,qZ2,qZ3,qZ3,qIW ha,qIW hb,qFar (by omega) (by omega),qAA]
  simp only[qZ3,qZ2]
  have e:decide ((qRU a - qRU b).num.sign<=0)=decide (qRU a<=qRU b):=by rw[decide_eq_decide];exact qEaq _ _
  rw[e]
 rw[qDA e12,if_neg e12]
 by_cases e13:nOp n=13
 ·obtain ⟨a,b,rfl,ha,hb⟩:=hnum (.inr e13)
  have qa:=(qNS ((hB.mem a (by simp)).mono (Nat.le_add_right B 1)) (by omega)).D
  have qb:=(qNS ((hB.mem b (by simp)).mono (Nat.le_add_right B 1)) (by omega)).D
  rw[qHA e13,if_pos e13]
  simp only[List.map_cons,List.map_nil,qZ3,qZ2]
  rw[qEA,qBA (by omega),qBA (by simp),qEA,qBA (by omega),qBA (by simp),i0,i1,qZ2,qZ3,qZ3,qIW ha,qIW hb,qFar (by omega) (by omega),qAA]
  simp only[qZ3,qZ2]
  have e:decide ((qRU a - qRU b).num.sign < 0)=decide (qRU a < qRU b):=by rw[decide_eq_decide];exact qGap _ _
  rw[e]
 exfalso
 clear hO hnum htr hs
 unfold qRC at hn
 rw[if_neg (by omega),if_neg (by omega),if_neg (by omega)] at hn
 simp only[qY0,decide_eq_true_eq] at hn
 omega
abbrev Em:=List (qBs×Val)
abbrev Fm:=List (qBs×Interp)
structure EM (A:qBs->Option SV) (G:Nod->List SV->Int ⊕ SV) (env:Em) (fns:Fm):Prop where
 var:∀ nm,qLD nm env=(A nm).map encS
 call:∀ t p n vs B,Hs vs B->B<=90000->qNN (t,p,env,fns) n (vs.map encS)=some ((match G n vs with | .inl e=>(qKK,e,()) | .inr v=>(encS v,0,())),((t,p,env,fns),()))
def qBak (A:qBs->Option SV) (G:Nod->List SV->Int ⊕ SV) (env:Em) (fns:Fm) (t:List Nod) (nx:Evl->Option ((Val×Int×Unit)×(Evl×Unit))) (d:Nat):Prop:=
 ∀ (n:Nod) (k:Tf) (p:Nat) (rest:List Nod),t.drop p=n::(k.flat++rest)->(cons n k nil).wf=true->(0:Int)∉(cons n k nil).srt->qKf (cons n k nil)->k.dep+1<=d->
  match evF A G (cons n k nil) with
  |.inl e=>∃ y,nx (t,(p:Int),env,fns)=some ((qKK,e,()),(y,()))
  |.inr [v]=>nx (t,(p:Int),env,fns)=some ((encS v,0,()),((t,((p+1+k.size:Nat):Int),env,fns),()))
  |.inr _=>False
theorem qAal {A:qBs->Option SV} {G:Nod->List SV->Int ⊕ SV} (hE:EA A G) {env:Em} {fns:Fm} {t:List Nod} (ht:t.length<=20000) {nx:Evl->Option ((Val×Int×Unit)×(Evl×Unit))} {d:Nat} (hnx:qBak A G env fns t nx d) (m:Nod) :
 ∀ (k:Tf) (p:Nat) (rest:List Nod) (acc:List Val) (idx:Nat) (K:Int),t.drop p=k.flat++rest->k.wf=true->(0:Int)∉k.srt->qKf k->k.dep<=d->((idx+k.len:Nat):Int)=K->acc.length+k.len<=100000->idx+k.len<=100000->
 match evF A G k with
 |.inl e=>∃ y x,qPA (qVB nx) ((t,(p:Int),env,fns),qKK,(0:Int),m,acc,K,(idx:Int),())=some (.ret,(y,qKK,e,m,x))
 |.inr vs=>qPA (qVB nx) ((t,(p:Int),env,fns),qKK,(0:Int),m,acc,K,(idx:Int),())=some (.exit 0,((t,((p+k.size:Nat):Int),env,fns),qKK,(0:Int),m,acc++vs.map encS,K,K,())):=by
 intro k
 induction k with
 |nil=>
  intro p rest acc idx K _ _ _ _ _ hK _ _
  simp only[evF]
  simp only[len,Nat.add_zero] at hK
  refine qWA ?_ (by simp)
  unfold qVB
  simp only
  rw[qOA (by omega),hK]
  simp[size]
 |cons n k r ik ir=>
  intro p rest acc idx K hd hw hs hn hdep hK h1 h2
  obtain ⟨w1,w2,w3,w4⟩:=qGJ.1 hw
  obtain ⟨s1,s2,s3⟩:=qWM.1 hs
  simp only[dep] at hdep
  simp only[len] at hK h1 h2
  simp only[flat,qY5,qZ1] at hd
  have hsing:=hnx n k p (r.flat++rest) hd (qGJ.2 ⟨w1,w2,w3,rfl⟩) (qWM.2 ⟨s1,s2,by simp[srt]⟩) (fun x hx=>hn x (by simp only[flat,qY12,qZ7] at hx ⊢;rcases hx with h | h | h;exact .inl h;exact .inr (.inl h);cases h)) (by omega)
  have hne:∀ e,evF A G (cons n k nil)=.inl e->e≠0:=by
   intro e he
   have hgen:∀ (f:Tf) e,evF A G f=.inl e->e≠0:=by
    intro f
    induction f with
    |nil=>intro e h;simp[evF] at h
    |cons a b c ib ic=>
     intro e h
     simp only[evF] at h
     split at h
     ·rename_i e' hb
      cases h;exact ib _ hb
     ·split at h
      ·rename_i e' hv
       cases h
       unfold evN at hv
       split at hv
       ·split at hv
        ·cases hv;decide
        ·split at hv
         ·cases hv
         ·cases hv;decide
       ·split at hv
        ·exact hE.er _ _ _ hv
        ·cases hv
      ·split at h
       ·rename_i e' hc
        cases h;exact ic _ hc
       ·cases h
   exact hgen _ e he
  have hlen:p+1+k.size+r.size+rest.length=t.length:=by
   have:=congrArg List.length hd
   simp only[List.length_drop,qY11,qZ6,qVD] at this
   omega
  have hd':t.drop (p+1+k.size)=r.flat++rest:=by
   have:=congrArg (List.drop (1+k.size)) hd
   rw[List.drop_drop] at this
   have e:p+(1+k.size)=p+1+k.size:=by omega
   rw[e] at this
   rw[this,Nat.add_comm 1,List.drop_succ_cons,List.drop_append_of_le_length (by rw[qVD];omega),qY7 (by rw[qVD];omega),qY15]
  have hsplit:evF A G (cons n k r)=match evF A G (cons n k nil) with
   |.inl e=>.inl e
   |.inr us=>match evF A G r with
    |.inl e=>.inl e
    |.inr ws=>.inr (us++ws):=by
   simp only[evF]
   cases evF A G k with
   |inl e=>rfl
   |inr vs=>
    simp only
    cases evN A G n vs with
    |inl e=>rfl
    |inr v=>
     simp only
     cases evF A G r<;>rfl
  rw[hsplit]
  cases he:evF A G (cons n k nil) with
  |inl e=>
   rw[he] at hsing
   obtain ⟨y,hy⟩:=hsing
   simp only
   refine ⟨y,_,qWA (y:=(y,qKK,e,m,acc,K,(idx:Int),())) ?_ (by simp)⟩
   unfold qVB
   simp only
   rw[qIA (by omega),hy,qAA,qVE (hne e he)]
  |inr us=>
   rw[he] at hsing
   match us,hsing with
   |[v],hsing=>
    simp only at hsing ⊢
    have hgo:qVB nx ((t,(p:Int),env,fns),qKK,(0:Int),m,acc,K,(idx:Int),())=some (.normal,((t,((p+1+k.size:Nat):Int),env,fns),qKK,(0:Int),m,acc++[encS v],K,((idx+1:Nat):Int),())):=by
     unfold qVB
     simp only
     rw[qIA (by omega),hsing,qAA,qRE rfl,qBA (by simp[qWE];omega),w64 (by omega)]
     rfl
    have ihr:=ir (p+1+k.size) rest (acc++[encS v]) (idx+1) K hd' w4 s3 (fun x hx=>hn x (by simp only[flat,qY12,qZ7];exact .inr (.inr hx))) (by omega) (by omega) (by simp;omega) (by omega)
    cases hr:evF A G r with
    |inl e=>
     rw[hr] at ihr
     obtain ⟨y,x,h⟩:=ihr
     exact ⟨y,x,by rw[qAB hgo,h]⟩
    |inr ws=>
     rw[hr] at ihr
     simp only at ihr ⊢
     rw[qAB hgo,ihr]
     have e:p+1+k.size+r.size=p+(cons n k r).size:=by simp only[size];omega
     rw[e]
     simp
theorem qKan {A:qBs->Option SV} {G:Nod->List SV->Int ⊕ SV} (hE:EA A G) {env:Em} {fns:Fm} (hM:EM A G env fns) {t:List Nod} (ht:t.length<=1100) :
 ∀ d,qBak A G env fns t (qOC d) d:=by
 intro d
 induction d with
 |zero=>intro n k p rest _ _ _ _ h;omega
 |succ d ih=>
  intro n k p rest hd hw hs hn hdep
  obtain ⟨w1,w2,w3,w4⟩:=qGJ.1 hw
  obtain ⟨s1,s2,s3⟩:=qWM.1 hs
  obtain ⟨g1,g2⟩:=qOL (d:=qQE) hd
  have hnk:qKf k:=fun m hm=>hn m (by simp only[flat,qY12,qZ7];exact .inr (.inl hm))
  have hd':t.drop (p+1)=k.flat++rest:=by
   have:=congrArg (List.drop 1) hd
   rw[List.drop_drop] at this
   simpa using this
  have hlen:p+1+k.size+rest.length=t.length:=by
   have:=congrArg List.length hd
   simp only[List.length_drop,qY11,qZ6,qVD] at this
   omega
  have hkl:=qPL k
  have hkids:=qAal hE (by omega) ih n k (p+1) rest [] 0 (k.len:Int) hd' w3 s1 hnk (by omega) (by simp) (by simp;omega) (by omega)
  have hK:n.2.2.2.2=(k.len:Int):=w2
  have hwp:qI ((p:Int)+1)=((p+1:Nat):Int):=by rw[w64 (by omega)];rfl
  have hunf:qOC (d+1) (t,(p:Int),env,fns)=qWH (qOC d) (t,(p:Int),env,fns):=rfl
  rw[hunf]
  unfold qWH
  simp only
  rw[qEA,qBA (by omega),qBA (by omega),qZ0,g1,hK,hwp]
  rw[show ((0:Nat):Int)=0 from rfl] at hkids
  simp only[evF]
  cases hk:evF A G k with
  |inl e=>
   rw[hk] at hkids
   obtain ⟨y,x,h⟩:=hkids
   simp only
   refine ⟨y,?_⟩
   have h':qPA (qVB (qOC d)) ((t,((p+1:Nat):Int),env,fns),((0:Int),false,([]:qBs),([]:List qBs),([]:List qBs)),0,n,([]:List Val),(k.len:Int),0,())=some (.ret,(y,qKK,e,n,x)):=h
   rw[h']
   simp only[qAA,qDF,qCF,qRA,qVA]
  |inr vs=>
   rw[hk] at hkids
   obtain ⟨e1,e2,e3⟩:=qUB hE k w3 s1 hnk vs hk
   simp only at hkids ⊢
   have h':qPA (qVB (qOC d)) ((t,((p+1:Nat):Int),env,fns),((0:Int),false,([]:qBs),([]:List qBs),([]:List qBs)),0,n,([]:List Val),(k.len:Int),0,())=some (.exit 0,((t,((p+1+k.size:Nat):Int),env,fns),qKK,(0:Int),n,[]++vs.map encS,(k.len:Int),(k.len:Int),())):=hkids
   rw[h']
   simp only[qAA,qCC,qRA,qY15]
   have hO:n.1=nOp n:=rfl
   rw[hO]
   have hvl:vs.length=k.len:=by
    have:=congrArg List.length e1
    rw[List.length_map,qEM] at this
    exact this
   unfold evN
   by_cases h4:nOp n=4
   ·rw[qHA h4,if_pos h4]
    unfold qDJ
    simp only
    have hv:=hM.var n.2.2.1
    have hA:A (qSP n)=A n.2.2.1:=rfl
    rw[hA,hv]
    cases A n.2.2.1 with
    |none=>exact ⟨_,rfl⟩
    |some v=>
     simp only[Option.map_some,Option.isSome_some,qY2,qVA,Option.getD_some,qJV]
     by_cases q:qCH v=n.2.1
     ·rw[qRE q,if_pos q]
      rfl
     ·rw[qVE q,if_neg q]
      exact ⟨_,rfl⟩
   ·rw[qDA h4,if_neg h4]
    by_cases h5:nOp n=5
    ·rw[qHA h5,if_pos h5,hM.call t _ n vs _ e3 (by omega)]
     cases G n vs with
     |inl e=>exact ⟨_,rfl⟩
     |inr v=>rfl
    ·rw[qDA h5,if_neg h5]
     obtain ⟨f1,f2⟩:=qWW.1 w1
     rw[qGo (f:=op1 k) f1 h4 h5 (by rw[hvl,<-w2];exact f2) (by rw[e1];exact s2) e2 e3 (by omega) (qRz (hn n (by simp[flat]))) (by omega)]
     rfl
end Go.AM.Num
end
section
namespace Go.AM.Num
open Tf
open Classical in
noncomputable def decS (v:Val):Option SV:=if h:∃ s,okS s/\v=encS s then some h.choose else none
theorem qLi {v:Val} (h:qTG v=true):∃ s,decS v=some s/\okS s/\v=encS s:=by
 have h':=qPt.1 h
 refine ⟨h'.choose,?_,h'.choose_spec.1,h'.choose_spec.2⟩
 unfold decS
 rw[dif_pos h']
theorem qWab {v:Val} {s:SV} (h:decS v=some s):okS s/\v=encS s:=by
 unfold decS at h
 split at h
 ·rename_i hh
  cases h;exact hh.choose_spec
 ·cases h
theorem qTah {s:SV} (h:okS s):decS (encS s)=some s:=by
 obtain ⟨s',h1,h2,h3⟩:=qLi (qUd h)
 rw[h1,qNs h3]
structure SmallV (v:Val):Prop where
 sh:Short 73 v
 few:v.2.2.2.1.length<=75
theorem qZai {z:Int} (h:(ti z).length<=73):Ht 75 (z:Rat):=by
 have:=D_le (z:Rat)
 exact qNq (by unfold ti at h;omega)
theorem qUah {s:SV} (h:SmallV (encS s)):Bdd 75 s:=by
 cases s with
 |b x=>trivial
 |z n=>exact qZai h.sh.num
 |q r=>
  have h1:(txt r).length<=73:=h.sh.num
  have:=D_le r
  exact qNq (by omega)
 |a d P=>
  have hs:=qOas (d:=d) (P:=P) h.sh
  have hf:(ks P).length<=75:=h.few
  rw[qLF] at hf
  exact ⟨qZai hs.num,fun p hp=>⟨qZai (hs.els p hp).1,qZai (hs.els p hp).2⟩,hf⟩
noncomputable def qOy (env:List qXS) (nm:qBs):Option SV:=(env.find? fun b=>decide (b.1=nm)).bind fun b=>decS b.2
def G0:Nod->List SV->Int ⊕ SV:=fun _ _=>.inl 4
theorem qAad {env:List qXS} (hs:∀ b∈env,SmallV b.2):EA (qOy env) G0:=by
 refine ⟨fun nm v h=>?_,fun n vs v h=>by simp[G0] at h,fun n vs e h=>by simp only[G0,Sum.inl.injEq] at h;subst h;decide⟩
 unfold qOy at h
 simp only[Option.bind_eq_some_iff] at h
 obtain ⟨b,h1,h2⟩:=h
 obtain ⟨a1,a2⟩:=qWab h2
 exact ⟨a1,qUah (by rw[<-a2];exact hs b (List.mem_of_find?_eq_some h1))⟩
theorem qUj {env:List qXS} (hs:∀ b∈env,SmallV b.2) (hl:env.length<=1000000000):∀ (m p:Nat) (out:Em),p+m=env.length->(∀ b∈env.take p,qTG b.2=true)->(∀ nm,qLD nm out=((env.take p).find? fun b=>decide (b.1=nm)).map (·.2))->
 ((¬ ∀ b∈env,qTG b.2=true)/\∃ x,qPA qBG (([]:Em),false,out,env,(env.length:Int),(p:Int),())=some (.ret,(([]:Em),false,x)))\/
 ((∀ b∈env,qTG b.2=true)/\∃ out' x,(∀ nm,qLD nm out'=(env.find? fun b=>decide (b.1=nm)).map (·.2))/\qPA qBG (([]:Em),false,out,env,(env.length:Int),(p:Int),())=some (.exit 0,(([]:Em),false,out',x))):=by
 intro m
 induction m with
 |zero=>
  intro p out hp hv ho
  have e:env.take p=env:=List.take_of_length_le (by omega)
  rw[e] at hv ho
  exact .inr ⟨hv,out,_,ho,qWA (by unfold qBG;simp only;rw[qOA (by omega)]) (by simp)⟩
 |succ m ih=>
  intro p out hp hv ho
  have hlt:p < env.length:=by omega
  have hg:env.getD p qJad=env[p]:=by simp[qZ4,hlt]
  have hmem:env[p]∈env:=List.getElem_mem hlt
  have htk:env.take (p+1)=env.take p++[env[p]]:=by rw[List.take_add_one,qZ5 hlt];rfl
  generalize env[p]=b at hg hmem htk
  have hvb:=qFv (N:=73) (by omega) (hs b hmem).sh
  by_cases hb:qTG b.2=false
  ·refine .inl ⟨fun h=>(by rw[h b hmem] at hb;cases hb),_,qWA (by
    unfold qBG
    simp only
    rw[qIA (by omega),qEA,qBA (by omega),qBA (by omega),qZ0,hg,hvb,qAA]
    rw[hb]
    rfl) (by simp)⟩
  rw[Bool.not_eq_false] at hb
  have hv':∀ c∈env.take (p+1),qTG c.2=true:=by
   intro c hc
   rw[htk,qZ7,qZ8] at hc
   rcases hc with hc | rfl
   ·exact hv c hc
   ·exact hb
  have hstep:∃ out',(∀ nm,qLD nm out'=((env.take (p+1)).find? fun b=>decide (b.1=nm)).map (·.2))/\qBG (([]:Em),false,out,env,(env.length:Int),(p:Int),())=some (.normal,(([]:Em),false,out',env,(env.length:Int),((p+1:Nat):Int),())):=by
   unfold qBG
   simp only
   rw[qIA (by omega),qEA,qBA (by omega),qBA (by omega),qZ0,hg,hvb,qAA,hb,w64 (by omega)]
   simp only[qY2,qVA]
   have hob:=ho b.1
   cases hlk:qLD b.1 out with
   |none=>
    simp only[Option.isSome_none,qY1,qRA]
    refine ⟨_,fun nm=>?_,rfl⟩
    rw[htk,List.find?_append]
    rw[hlk] at hob
    have hn:(env.take p).find? (fun c=>decide (c.1=b.1))=none:=by
     cases hf:(env.take p).find? (fun c=>decide (c.1=b.1)) with
     |none=>rfl
     |some c=>rw[hf] at hob;cases hob
    by_cases e:nm=b.1
    ·subst e
     rw[qSL,hn]
     simp
    ·rw[qRP e,ho nm]
     have:[b].find? (fun c=>decide (c.1=nm))=none:=by
      rw[List.find?_eq_none]
      intro c hc
      rw[qZ8] at hc
      subst hc
      simpa using fun h=>e h.symm
     rw[this]
     cases (env.take p).find? (fun c=>decide (c.1=nm))<;>rfl
   |some v=>
    simp only[Option.isSome_some,qY2,qVA]
    refine ⟨_,fun nm=>?_,rfl⟩
    rw[htk,List.find?_append,ho nm]
    cases hf:(env.take p).find? (fun c=>decide (c.1=nm)) with
    |some c=>rfl
    |none=>
     have:[b].find? (fun c=>decide (c.1=nm))=none:=by
      rw[List.find?_eq_none]
      intro c hc
      rw[qZ8] at hc
      subst hc
      simp only[decide_eq_true_eq]
      intro h
      rw[hlk,h,hf] at hob
      cases hob
     rw[this]
     rfl
  obtain ⟨out',h1,h2⟩:=hstep
  rw[qAB h2]
  exact ih (p+1) out' (by omega) hv' h1
theorem qEj {env:List qXS} (hs:∀ b∈env,SmallV b.2) (hl:env.length<=1000000000) :
 ((¬ ∀ b∈env,qTG b.2=true)/\qUQ env=some (([],false,()),()))\/((∀ b∈env,qTG b.2=true)/\∃ out,(∀ nm,qLD nm out=(qOy env nm).map encS)/\qUQ env=some ((out,true,()),())):=by
 unfold qUQ
 rcases qUj hs hl env.length 0 [] (by omega) (fun b hb=>by simp at hb) (fun nm=>by simp[qLD]) with ⟨h1,x,h2⟩ | ⟨h1,out,x,h2,h3⟩
 ·rw[show ((0:Nat):Int)=0 from rfl] at h2
  rw[h2]
  simp only[qAA,qDF,qCF,qRA,qVA]
  exact .inl ⟨h1,by first | rfl | trivial⟩
 ·rw[show ((0:Nat):Int)=0 from rfl] at h3
  rw[h3]
  simp only[qAA,qCC,qRA]
  refine .inr ⟨h1,out,fun nm=>?_,rfl⟩
  rw[h2]
  unfold qOy
  cases hf:env.find? (fun b=>decide (b.1=nm)) with
  |none=>rfl
  |some b=>
   obtain ⟨s,s1,s2,s3⟩:=qLi (h1 b (List.mem_of_find?_eq_some hf))
   rw[Option.map_some,Option.bind_some,s1,s3]
   rfl
open Classical in
noncomputable def qVv (t:List Nod) (env:List qXS):Val×Int:=
 if h:(∀ b∈env,qTG b.2=true)/\∃ F,VT t F then
  (match evF (qOy env) G0 h.2.choose with
  |.inl e=>(qKK,e)
  |.inr [v]=>(encS v,0)
  |.inr _=>(qKK,1))
 else (qKK,1)
theorem qWt {t:List Nod} {env:List qXS} {F:Tf} (hv:∀ b∈env,qTG b.2=true) (hF:VT t F):qVv t env=match evF (qOy env) G0 F with
 |.inl e=>(qKK,e)
 |.inr [v]=>(encS v,0)
 |.inr _=>(qKK,1):=by
 have h:(∀ b∈env,qTG b.2=true)/\∃ F,VT t F:=⟨hv,F,hF⟩
 unfold qVv
 rw[dif_pos h,h.2.choose_spec.uniq hF]
theorem qCn {t:List Nod} {env:List qXS} (h:¬ ((∀ b∈env,qTG b.2=true)/\∃ F,VT t F)):qVv t env=(qKK,1):=by unfold qVv;rw[dif_neg h]
theorem qVV:qQa []=some (([],true,()),()):=by kernel_rfl
def qMae (t:List Nod):Prop:=∀ n∈t,(qSS n).length<=73
theorem qUy {B:Nat} {v:SV} (h:Bdd B v) (hB:B<=90000):qEb (encS v)=some ((encS v,()),()):=by
 cases v with
 |a d P=>have:=h.2.2;exact qMZ (by simp only[encS,qLF];omega) (by simp only[encS,qNK];omega)
 |b x=>exact qMZ (by simp[encS]) (by simp[encS])
 |z x=>exact qMZ (by simp[encS]) (by simp[encS])
 |q x=>exact qMZ (by simp[encS]) (by simp[encS])
theorem qZak {A:qBs->Option SV} {G:Nod->List SV->Int ⊕ SV} {n:Nod} {k:Tf}:(∃ e,evF A G (cons n k nil)=.inl e)\/∃ v,evF A G (cons n k nil)=.inr [v]:=by
 simp only[evF]
 cases evF A G k with
 |inl e=>exact .inl ⟨e,rfl⟩
 |inr vs=>
  simp only
  cases evN A G n vs with
  |inl e=>exact .inl ⟨e,rfl⟩
  |inr v=>exact .inr ⟨v,rfl⟩
theorem qPaq {A:qBs->Option SV} {G:Nod->List SV->Int ⊕ SV} (hE:EA A G):∀ (f:Tf) e,evF A G f=.inl e->e≠0:=by
 intro f
 induction f with
 |nil=>intro e h;simp[evF] at h
 |cons a b c ib ic=>
  intro e h
  simp only[evF] at h
  split at h
  ·rename_i e' hb
   cases h;exact ib _ hb
  ·split at h
   ·rename_i e' hv
    cases h
    unfold evN at hv
    split at hv
    ·split at hv
     ·cases hv;decide
     ·split at hv
      ·cases hv
      ·cases hv;decide
    ·split at hv
     ·exact hE.er _ _ _ hv
     ·cases hv
   ·split at h
    ·rename_i e' hc
     cases h;exact ic _ hc
    ·cases h
theorem qGac {t:List Nod} {env:List qXS} (ht:qMae t) (hl:t.length<=1100) (hs:∀ b∈env,SmallV b.2) (he:env.length<=1000000000):qRi t env []=some (((qVv t env).1,(qVv t env).2,()),()):=by
 unfold qRi
 rcases qEj hs he with ⟨h1,h2⟩ | ⟨h1,out,h2,h3⟩
 ·rw[h2,qVV,qCn fun h=>h1 h.1]
  rfl
 rw[h3,qVV]
 simp only[qAA,qY2,qVA]
 obtain ⟨b,b1,b2⟩:=qAy (t:=t) fun n hn=>by have:=ht n hn;omega
 rw[b1,qAA]
 cases b with
 |false=>rw[qCn fun h=>by have:=b2.2 h.2;cases this];rfl
 |true=>
  simp only[qY2,qVA]
  obtain ⟨F,hF⟩:=b2.1 rfl
  rw[qWt h1 hF]
  obtain ⟨n,k,rfl⟩:=hF.one
  have hE:=qAad hs
  have hM:EM (qOy env) G0 out []:=⟨h2,fun t p n vs B _ _=>rfl⟩
  have hfl:=hF.flat
  obtain ⟨d,hd1,hd2⟩:∃ d,big=d/\258<=d:=⟨big,rfl,by decide⟩
  have hdep:=hF.dep
  simp only[dep] at hdep
  have hsF:qKf (cons n k nil):=fun m hm=>ht m (by rw[<-hfl];exact hm)
  have hnx:=qKan hE hM hl d n k 0 [] (by rw[<-hfl];simp[flat]) hF.wf hF.srt hsF (by omega)
  rw[hd1]
  rw[show ((0:Nat):Int)=0 from rfl] at hnx
  rcases qZak (A:=qOy env) (G:=G0) (n:=n) (k:=k) with ⟨e,hev⟩ | ⟨v,hev⟩
  ·rw[hev] at hnx ⊢
   obtain ⟨y,hy⟩:=hnx
   rw[hy,qAA,qVE (qPaq hE _ _ hev)]
  ·rw[hev] at hnx ⊢
   simp only at hnx ⊢
   rw[hnx,qAA,qRE rfl]
   obtain ⟨_,_,q3⟩:=qUB hE _ hF.wf hF.srt hsF _ hev
   have hz:(cons n k nil).size<=1100:=by rw[<-qVD,hfl];exact hl
   rw[qUy (q3.mem v (by simp)) (by omega),qAA]
end Go.AM.Num
end
section
namespace Go.AM.Num
open Tf
structure VSok (VS:List Vr):Prop where
 name:∀ v∈VS,qKh v.1=true/\1<=v.2/\v.2<=4
 once:∀ v∈VS,∀ w∈VS,v.1=w.1->v=w
structure GenF (VS:List Vr) (ss:List Int) (N d:Nat) (l:List Nod) (K:Tf):Prop where
 flat:K.flat=l
 wf:K.wf=true
 srt:K.srt=ss
 nz:(0:Int)∉ss
 sh:qMae l
 size:K.size<=N
 dep:K.dep<=d
 vars:∀ x∈l,nOp x=4->(qSP x,qJG x)∈VS
 noap:∀ x∈l,nOp x≠5
def qLP (VS:List Vr) (ss:List Int) (N d:Nat) (l:List Nod):Prop:=∃ K,GenF VS ss N d l K
theorem qLP.nil (VS:List Vr):qLP VS [] 0 0 []:=⟨Tf.nil,rfl,rfl,rfl,by simp,fun _ h=>absurd h qY16,Nat.le_refl _,Nat.le_refl _,fun _ h=>absurd h qY16,fun _ h=>absurd h qY16⟩
theorem qLP.mono {VS:List Vr} {ss:List Int} {N M d e:Nat} {l:List Nod} (h:qLP VS ss N d l) (hN:N<=M) (hd:d<=e):qLP VS ss M e l:=by
 obtain ⟨K,hK⟩:=h
 exact ⟨K,hK.flat,hK.wf,hK.srt,hK.nz,hK.sh,by have:=hK.size;omega,by have:=hK.dep;omega,hK.vars,hK.noap⟩
theorem qLP.app {VS:List Vr} {ss uu:List Int} {N M d:Nat} {l m:List Nod} (h:qLP VS ss N d l) (g:qLP VS uu M d m):qLP VS (ss++uu) (N+M) d (l++m):=by
 obtain ⟨K,hK⟩:=h
 obtain ⟨L,hL⟩:=g
 refine ⟨K.app L,by rw[qFV,hK.flat,hL.flat],by rw[qCo,hK.wf,hL.wf];rfl,by rw[qRa,hK.srt,hL.srt],?_,?_,?_,?_,?_,?_⟩
 ·rw[qZ7];exact fun h=>h.elim hK.nz hL.nz
 ·exact fun x hx=>(List.mem_append.1 hx).elim (hK.sh x) (hL.sh x)
 ·rw[qEd];have:=hK.size;have:=hL.size;omega
 ·rw[qLq];have:=hK.dep;have:=hL.dep;omega
 ·exact fun x hx=>(List.mem_append.1 hx).elim (hK.vars x) (hL.vars x)
 ·exact fun x hx=>(List.mem_append.1 hx).elim (hK.noap x) (hL.noap x)
theorem qEt {K:Tf} {l:List Nod} (h:K.flat=l):op1 K=(l.getD 0 qQE).1:=by
 subst h
 cases K<;>rfl
theorem qLP.node {VS:List Vr} {ss:List Int} {N d:Nat} {l:List Nod} (h:qLP VS ss N d l) {n:Nod} {s:Int} (hf:qRC n=true) (hc:qHB (nOp n) ss.length=true) (hk:qEF n=(ss.length:Int)) (hs:qXC n (l.getD 0 qQE).1 ss=s) (hz:s≠0)
 (hnum:(qSS n).length<=73) (hv:nOp n=4->(qSP n,qJG n)∈VS) (ha:nOp n≠5):qLP VS [s] (N+1) (d+1) (n::l):=by
 obtain ⟨K,hK⟩:=h
 have hl:K.len=ss.length:=by rw[<-qEM,hK.srt]
 refine ⟨cons n K Tf.nil,by simp[Tf.flat,hK.flat],qGJ.2 ⟨qWW.2 ⟨hf,by rw[hk];exact hc⟩,by rw[hl];exact hk,hK.wf,rfl⟩,?_,?_,?_,?_,?_,?_,?_⟩
 ·simp only[Tf.srt,hK.srt]
  rw[if_neg hK.nz,qEt hK.flat,hs]
 ·simp[Ne.symm hz]
 ·intro x hx
  rcases List.mem_cons.1 hx with rfl | hx
  ·exact hnum
  ·exact hK.sh x hx
 ·simp only[Tf.size];have:=hK.size;omega
 ·simp only[Tf.dep];have:=hK.dep;omega
 ·intro x hx
  rcases List.mem_cons.1 hx with rfl | hx
  ·exact hv
  ·exact hK.vars x hx
 ·intro x hx
  rcases List.mem_cons.1 hx with rfl | hx
  ·exact ha
  ·exact hK.noap x hx
theorem qOai {n:Nod} {k:Tf}:∀ {f:Tf},(n,k)∈f.subs->n∈f.flat:=by
 intro f
 induction f with
 |nil=>intro h;simp[subs] at h
 |cons m a b ia ib=>
  intro h
  simp only[subs,qY12,qZ7,Prod.mk.injEq] at h
  simp only[Tf.flat,qY12,qZ7]
  rcases h with ⟨rfl,_⟩ | h | h
  ·exact .inl rfl
  ·exact .inr (.inl (ia h))
  ·exact .inr (.inr (ib h))
theorem qSak {VS:List Vr} (hV:VSok VS) {s:Int} {N d:Nat} {t:List Nod} {F:Tf} (h:GenF VS [s] N d t F) (hN:N<=20000) (hd:d<=257):VT t F:=by
 refine ⟨h.flat,h.wf,by rw[h.srt];exact h.nz,by rw[<-qEM,h.srt];rfl,by have:=h.size;omega,by have:=h.dep;omega,?_⟩
 have key:∀ a∈qQp F,a.2.1=false/\a.2.2.1=[]/\(a.1,a.2.2.2)∈VS:=by
  intro a ha
  obtain ⟨⟨n,k⟩,h1,h2⟩:=List.mem_filterMap.1 ha
  have hm:n∈t:=by rw[<-h.flat];exact qOai h1
  unfold qRR at h2
  split at h2
  ·rename_i h4
   simp only[Option.some.injEq] at h2
   subst h2
   exact ⟨rfl,rfl,h.vars n hm h4⟩
  ·split at h2
   ·rename_i h5
    exact absurd h5 (h.noap n hm)
   ·cases h2
 rintro ⟨a,b,c,e⟩ ha ⟨a',b',c',e'⟩ ha' hn
 obtain ⟨p1,p2,p3⟩:=key _ ha
 obtain ⟨q1,q2,q3⟩:=key _ ha'
 simp only at p1 p2 p3 q1 q2 q3 hn
 have:=hV.once _ p3 _ q3 hn
 simp only[Prod.mk.injEq] at this
 rw[p1,p2,q1,q2,this.1,this.2]
theorem qBag {A:qBs->Option SV} {G:Nod->List SV->Int ⊕ SV}:∀ (F:Tf),(∀ x∈F.flat,nOp x≠5)->(∀ x∈F.flat,nOp x=4->∃ v,A (qSP x)=some v/\qCH v=qJG x)->∃ vs,evF A G F=.inr vs:=by
 intro F
 induction F with
 |nil=>intro _ _;exact ⟨[],rfl⟩
 |cons n k r ik ir=>
  intro h1 h2
  simp only[Tf.flat,qY12,qZ7] at h1 h2
  obtain ⟨ks,hk⟩:=ik (fun x hx=>h1 x (.inr (.inl hx))) (fun x hx=>h2 x (.inr (.inl hx)))
  obtain ⟨rs,hr⟩:=ir (fun x hx=>h1 x (.inr (.inr hx))) (fun x hx=>h2 x (.inr (.inr hx)))
  have hv:∃ v,evN A G n ks=.inr v:=by
   unfold evN
   split
   ·rename_i h4
    obtain ⟨v,e1,e2⟩:=h2 n (.inl rfl) h4
    rw[e1]
    simp only
    rw[if_pos e2]
    exact ⟨v,rfl⟩
   ·rw[if_neg (h1 n (.inl rfl))]
    exact ⟨_,rfl⟩
  obtain ⟨v,hv⟩:=hv
  simp only[evF,hk,hv,hr]
  exact ⟨_,rfl⟩
theorem qVan {VS:List Vr} (hV:VSok VS) {nm:qBs} {s:Int} (h:(nm,s)∈VS):qLP VS [s] 1 1 [((4:Int),s,nm,([]:qBs),(0:Int))]:=by
 obtain ⟨h1,h2,h3⟩:=hV.name _ h
 exact (qLP.nil VS).node (by simp[nOp,qJG,qSP,qSS,qRC,h1,h2,h3]) rfl rfl (by simp[nOp,qJG,qXC]) (by simp only at h2;omega) (by simp[qSS]) (fun _=>h) (by simp[nOp])
theorem qPd {VS:List Vr} {z:Int} (h:(ti z).length<=73):qLP VS [2] 1 1 [((3:Int),(2:Int),([]:qBs),ti z,(0:Int))]:=
 (qLP.nil VS).node (by simp[nOp,qJG,qSP,qSS,qRC,qRb]) rfl rfl (by simp[nOp,qJG,qXC]) (by omega) h (fun h=>by simp[nOp] at h) (by simp[nOp])
theorem qJaa {VS:List Vr} {q:Rat} (h:(txt q).length<=73):qLP VS [3] 1 1 [((3:Int),(3:Int),([]:qBs),txt q,(0:Int))]:=
 (qLP.nil VS).node (by simp[nOp,qJG,qSP,qSS,qRC,qFN]) rfl rfl (by simp[nOp,qJG,qXC]) (by omega) h (fun h=>by simp[nOp] at h) (by simp[nOp])
theorem qTs {VS:List Vr}:qLP VS [1] 1 1 [((1:Int),(0:Int),([]:qBs),([]:qBs),(0:Int))]:=
 (qLP.nil VS).node (by simp[nOp,qJG,qSP,qSS,qRC]) rfl rfl (by simp[nOp,qJG,qXC]) (by omega) (by simp[qSS]) (fun h=>by simp[nOp] at h) (by simp[nOp])
theorem qUn {VS:List Vr}:qLP VS [1] 1 1 [((2:Int),(0:Int),([]:qBs),([]:qBs),(0:Int))]:=
 (qLP.nil VS).node (by simp[nOp,qJG,qSP,qSS,qRC]) rfl rfl (by simp[nOp,qJG,qXC]) (by omega) (by simp[qSS]) (fun h=>by simp[nOp] at h) (by simp[nOp])
end Go.AM.Num
end
section
namespace Go.AM.Num
open Tf
def alphaB (c:UInt8):Bool:=(decide (97<=c)&&decide (c<=122))||(decide (65<=c)&&decide (c<=90))
theorem qQo (c:UInt8):qGd (c.toNat:Int)=some ((alphaB c,()),()):=by
 refine qLT (P:=fun c=>qGd (c.toNat:Int)=some ((alphaB c,()),())) ?_ c
 decide +kernel
theorem qNb (c:UInt8):letterB c=(alphaB c||c==95||c==36||c==33):=rfl
theorem qKas (c:UInt8):decide ((c.toNat:Int) < 48)=!decide (48<=c):=by
 refine qLT (P:=fun c=>decide ((c.toNat:Int) < 48)=!decide (48<=c)) ?_ c
 decide +kernel
theorem qJas (c:UInt8):decide ((c.toNat:Int) > 57)=!decide (c<=57):=by
 refine qLT (P:=fun c=>decide ((c.toNat:Int) > 57)=!decide (c<=57)) ?_ c
 decide +kernel
theorem qCat (c:UInt8):((c.toNat:Int)==95)=(c==95):=by
 refine qLT (P:=fun c=>((c.toNat:Int)==95)=(c==95)) ?_ c
 decide +kernel
theorem qEat (c:UInt8):((c.toNat:Int)==36)=(c==36):=by
 refine qLT (P:=fun c=>((c.toNat:Int)==36)=(c==36)) ?_ c
 decide +kernel
theorem qLas (c:UInt8):((c.toNat:Int)==33)=(c==33):=by
 refine qLT (P:=fun c=>((c.toNat:Int)==33)=(c==33)) ?_ c
 decide +kernel
theorem qUan {l:List qBs} {s:qBs} (hl:l.length<=1000000000):r_in l s=some ((decide (s∈l),()),()):=by
 have key:=qCL (step:=qJe) (fun k=>(l,s,false,(k:Int),())) (fun k=>(l,s,true,(k:Int),())) l.length (E:=.exit 0) (B:=.ret) (by simp) (by simp) (fun k=>!(l.getD k []==s)) (fun k hk=>by
  unfold qJe
  simp only
  rw[qIA (by omega),qEA,qBA (by omega),qBA (by omega),qZ0,w64 (x:=(k:Int)+1) (by omega)]
  cases (l.getD k []==s)<;>rfl) (by
  unfold qJe
  simp only
  rw[qOA (by omega)])
 rw[qVQ l [] (fun x=>!(x==s))] at key
 rw[show ((0:Nat):Int)=0 from rfl] at key
 unfold r_in
 rcases key with ⟨k1,k2⟩ | ⟨k1,j,k2⟩
 ·rw[k2]
  simp only[qAA,qCC,qRA]
  rw[qZ9]
  intro h
  have:=List.all_eq_true.1 k1 s h
  simp at this
 ·rw[k2]
  simp only[qAA,qDF,qCF,qRA,qVA]
  rw[qZ10]
  by_cases h:s∈l
  ·exact h
  ·rw[List.all_eq_true.2 (fun x hx=>by simp;exact fun e=>h (e ▸ hx))] at k1;cases k1
theorem qAl:qDb=some ((qJi,()),()):=rfl
theorem qCy {s:qBs} (h:s≠[]):(List.range s.length).all (fun k=>if k=0 then letterB (s.getD 0 0) else qGl (s.getD k 0))=(letterB (s.getD 0 0)&&s.all qGl):=by
 have hpos:0 < s.length:=List.length_pos_iff.2 h
 rw[<-qVQ s 0 qGl,Bool.eq_iff_iff,qY0,qY3,qY3]
 constructor
 ·intro hh
  have h0:=hh 0 (List.mem_range.2 hpos)
  simp only[if_true] at h0
  refine ⟨h0,fun k hk=>?_⟩
  have hk':=hh k hk
  by_cases e:k=0
  ·subst e
   unfold qGl
   rw[h0];rfl
  ·rw[if_neg e] at hk';exact hk'
 ·rintro ⟨h0,hh⟩ k hk
  split
  ·exact h0
  ·exact hh k hk
theorem qLaa (s:qBs):qBm s=some ((qKh s,()),()):=by
 unfold qBm
 by_cases h0:s=[]
 ·subst h0;decide
 ·rw[show (s==([]:qBs))=false by simpa using h0,qVA]
  have hpos:0 < s.length:=List.length_pos_iff.2 h0
  unfold qKh
  by_cases h1:s.length<=40
  ·rw[qOA (by omega),qZ10 h1,qAl,qAA]
   simp only
   rw[qUan (by decide),qAA,Bool.true_and]
   cases hw:decide (s∈qJi) with
   |true=>cases letterB (s.getD 0 0)<;>rfl
   |false=>
    simp only[qVA]
    have key:=qCL (step:=qQT) (fun k=>(s,false,(k:Int),())) (fun k=>(s,false,(k:Int),())) s.length (E:=.exit 0) (B:=.ret) (by simp) (by simp) (fun k=>if k=0 then letterB (s.getD 0 0) else qGl (s.getD k 0)) (fun k hk=>by
     unfold qQT
     simp only
     rw[qIA (by omega),qEA,qBA (by omega),qBA (by omega),qZ0,qQo,qAA,qKas,qJas,qEar,qKaq,qCat,qEat,qLas,w64 (x:=(k:Int)+1) (by omega)]
     by_cases hk0:k=0
     ·subst hk0
      rw[if_pos rfl,qNb]
      generalize alphaB (s.getD 0 0)=a
      generalize (s.getD 0 0==95)=b
      generalize (s.getD 0 0==36)=c
      generalize (s.getD 0 0==33)=d
      cases a<;>cases b<;>cases c<;>cases d<;>rfl
     ·rw[if_neg hk0]
      unfold qGl
      rw[qNb,qDA (show (k:Int)≠0 by omega)]
      generalize alphaB (s.getD k 0)=a
      generalize (s.getD k 0==95)=b
      generalize (s.getD k 0==36)=c
      generalize (s.getD k 0==33)=d
      generalize decide (48<=s.getD k 0)=e
      generalize decide (s.getD k 0<=57)=f
      generalize (s.getD k 0==46)=g
      generalize (s.getD k 0==64)=h
      cases a<;>cases b<;>cases c<;>cases d<;>cases e<;>cases f<;>cases g<;>cases h<;>rfl) (by
     unfold qQT
     simp only
     rw[qOA (by omega)])
    rw[qCy h0] at key
    rcases key with ⟨k1,k2⟩ | ⟨k1,j,k2⟩
    ·rw[show ((0:Nat):Int)=0 from rfl] at k2
     rw[k2]
     simp only[qAA,qCC,qRA,qY1,Bool.and_true]
     rw[k1]
    ·rw[show ((0:Nat):Int)=0 from rfl] at k2
     rw[k2]
     simp only[qAA,qDF,qCF,qRA,qVA,qY1,Bool.and_true]
     rw[k1]
  ·rw[qIA (by omega),qZ9 h1]
   rfl
theorem qSq (s:Int):qVc s=some ((decide (1<=s/\s<=4),()),()):=qDf s
theorem qCr {n:Nod} (h:(qSS n).length<=100000):qLd n=some ((qRC n,()),()):=by
 obtain ⟨o,s,nm,num,kd⟩:=n
 simp only[qSS] at h
 unfold qLd qRC
 simp only[nOp,qJG,qSP,qSS]
 rw[qSq,qLaa,qEO (by omega),qBn (by omega),qGV (by omega)]
 simp only[qAA,qPz]
 by_cases e3:o=3
 ·rw[qHA e3,if_pos e3]
  by_cases h2:s=2
  ·subst h2
   cases decide (nm=[])<;>cases isI num<;>rfl
  ·rw[qDA h2,qZ9 h2,Bool.false_and,Bool.false_or]
   by_cases h3:s=3
   ·subst h3;cases decide (nm=[])<;>rfl
   ·rw[qDA h3,qZ9 h3,Bool.false_and];cases decide (nm=[])<;>rfl
 ·rw[qDA e3,if_neg e3]
  by_cases e4:o=4
  ·rw[qHA e4,if_pos (.inl e4)];cases decide (1<=s/\s<=4)<;>cases qKh nm<;>cases decide (num=[])<;>rfl
  ·rw[qDA e4]
   by_cases e5:o=5
   ·rw[qHA e5,if_pos (.inr e5)];cases decide (1<=s/\s<=4)<;>cases qKh nm<;>cases decide (num=[])<;>rfl
   ·rw[qDA e5,if_neg (by omega)]
    by_cases e6:o=16
    ·rw[qHA e6,if_pos (.inl e6)]
     by_cases z:s=0
     ·rw[qHA z,qZ10 z];cases decide (nm=[])<;>cases isI num<;>rfl
     ·rw[qDA z,qZ9 z];rfl
    ·rw[qDA e6]
     by_cases e7:o=17
     ·rw[qHA e7,if_pos (.inr e7)]
      by_cases z:s=0
      ·rw[qHA z,qZ10 z];cases decide (nm=[])<;>cases isI num<;>rfl
      ·rw[qDA z,qZ9 z];rfl
     ·rw[qDA e7,if_neg (by omega)]
      by_cases g1:o>=1
      ·rw[qIA g1]
       by_cases g2:o<=20
       ·rw[qIA g2,qZ10 (show 1<=o/\o<=20 from ⟨g1,g2⟩)]
        by_cases z:s=0
        ·rw[qHA z,qZ10 z];cases decide (nm=[])<;>rfl
        ·rw[qDA z,qZ9 z];rfl
       ·rw[qOA g2,qZ9 (by omega)];rfl
      ·rw[qOA g1,qZ9 (by omega)];rfl
theorem qEw (o k:Int):qEe o k=some ((qHB o k,()),()):=by
 by_cases h1:o=1;· subst h1;rfl
 by_cases h2:o=2;· subst h2;rfl
 by_cases h3:o=3;· subst h3;rfl
 by_cases h4:o=4;· subst h4;rfl
 by_cases h5:o=5
 ·subst h5
  have e:qHB 5 k=decide (1<=k/\k<=40):=rfl
  rw[e]
  unfold qEe
  rw[qDA (by decide),qDA (by decide),qDA (by decide),qDA (by decide),qHA rfl]
  by_cases g:k>=1
  ·rw[qIA g]
   have:decide (k<=40)=decide (1<=k/\k<=40):=by rw[decide_eq_decide];omega
   rw[this]
  ·rw[qOA g,qZ9 (by omega)]
 by_cases h6:o=6;· subst h6;rfl
 by_cases h16:o=16;· subst h16;rfl
 by_cases h17:o=17;· subst h17;rfl
 by_cases h20:o=20;· subst h20;rfl
 by_cases h7:o=7;· subst h7;rfl
 by_cases h8:o=8;· subst h8;rfl
 by_cases h10:o=10;· subst h10;rfl
 by_cases h19:o=19;· subst h19;rfl
 by_cases h14:o=14;· subst h14;rfl
 unfold qEe qHB
 rw[qDA h1,qDA h2,qDA h3,qDA h4,qDA h5,qDA h6,qDA h16,qDA h17,qDA h20,qDA h7,qDA h8,qDA h10,qDA h19,qDA h14,
  if_neg (by omega),if_neg h5,if_neg (by omega),if_neg (by omega),if_neg h14,if_neg (by omega)]
 rfl
theorem qJac {ss:List Int} {s out:Int} (hl:ss.length<=1000000000):qWO ss s out=some ((if ∀ x∈ss,x=s then out else 0,()),()):=by
 have key:=qCL (step:=qPT) (fun k=>(ss,s,out,(0:Int),(k:Int),())) (fun k=>(ss,s,out,(0:Int),(k:Int),())) ss.length (E:=.exit 0) (B:=.ret) (by simp) (by simp) (fun k=>decide (ss.getD k 0=s)) (fun k hk=>by
  unfold qPT
  simp only
  rw[qIA (by omega),qEA,qBA (by omega),qBA (by omega),qZ0,w64 (x:=(k:Int)+1) (by omega)]
  by_cases h:ss.getD k 0=s
  ·rw[qRE h,if_pos (qZ10 h)];rfl
  ·rw[qVE h,if_neg (fun e=>h (of_decide_eq_true e))]) (by
  unfold qPT
  simp only
  rw[qOA (by omega)])
 rw[qVQ ss 0 (fun x=>decide (x=s))] at key
 rw[show ((0:Nat):Int)=0 from rfl] at key
 unfold qWO
 rcases key with ⟨k1,k2⟩ | ⟨k1,j,k2⟩
 ·rw[k2]
  simp only[qAA,qCC,qRA]
  rw[if_pos (by simpa [qY3] using k1)]
 ·rw[k2]
  simp only[qAA,qDF,qCF,qRA,qVA]
  rw[if_neg (fun h=>by rw[List.all_eq_true.2 (fun x hx=>qZ10 (h x hx))] at k1;cases k1)]
theorem qRf {n:Nod} {f:Int} {ss:List Int} (ho:1<=nOp n/\nOp n<=20) (hl:ss.length<=1000000000) (hc:qHB (nOp n) ss.length=true) (h15:nOp n=15->f=3->ss.getD 0 0=2\/ss.getD 0 0=3):qLZ n f ss=some ((qXC n f ss,()),()):=by
 obtain ⟨o,s,nm,num,kd⟩:=n
 simp only[nOp] at ho hc h15
 have hnum:∀ s,qBU s=some ((decide (s=2\/s=3),()),()):=qFc
 unfold qLZ qXC
 simp only[nOp,qJG,qJac hl,hnum,qAA,show (0:Int).toNat=0 from rfl,show (1:Int).toNat=1 from rfl,show (2:Int).toNat=2 from rfl]
 by_cases h1:o=1
 ·subst h1
  rcases ss with _ | ⟨a,l⟩<;>simp[qHB] at hc
  ·simp
  ·omega
 rw[qDA h1]
 by_cases h2:o=2
 ·subst h2
  rcases ss with _ | ⟨a,l⟩<;>simp[qHB] at hc
  ·simp
  ·omega
 rw[qDA h2]
 by_cases h3:o=3;· rw[qHA h3,if_pos (.inl h3)]
 rw[qDA h3]
 by_cases h4:o=4;· rw[qHA h4,if_pos (.inr (.inl h4))]
 rw[qDA h4]
 by_cases h5:o=5;· rw[qHA h5,if_pos (.inr (.inr h5))]
 rw[qDA h5,if_neg (show ¬ (o=3\/o=4\/o=5) by omega)]
 by_cases h6:o=6;· rw[qHA h6,if_pos (show o=1\/o=2\/o=6\/o=7\/o=8\/o=9 by omega)]
 rw[qDA h6]
 by_cases h7:o=7;· rw[qHA h7,if_pos (show o=1\/o=2\/o=6\/o=7\/o=8\/o=9 by omega)]
 rw[qDA h7]
 by_cases h8:o=8;· rw[qHA h8,if_pos (show o=1\/o=2\/o=6\/o=7\/o=8\/o=9 by omega)]
 rw[qDA h8]
 by_cases h9:o=9;· rw[qHA h9,if_pos (show o=1\/o=2\/o=6\/o=7\/o=8\/o=9 by omega)]
 rw[qDA h9,if_neg (show ¬ (o=1\/o=2\/o=6\/o=7\/o=8\/o=9) by omega)]
 by_cases h10:o=10
 ·subst h10
  rcases ss with _ | ⟨a,_ | ⟨b,_ | ⟨c,_ | ⟨d,l⟩⟩⟩⟩<;>simp[qHB] at hc
  ·by_cases q:a=1
   ·by_cases q2:b=c
    ·simp[grd,q,q2]
    ·simp[grd,q,q2,show (b==c)=false by simpa using q2]
   ·simp[grd,q,show (a==1)=false by simpa using q]
  ·omega
 rw[qDA h10,if_neg h10]
 by_cases h11:o=11
 ·subst h11
  rcases ss with _ | ⟨a,_ | ⟨b,_ | ⟨c,l⟩⟩⟩<;>simp[qHB] at hc
  ·by_cases q:b=a
   ·simp[grd,q]
   ·simp[grd,q]
    exact fun e=>q e.symm
  ·omega
 rw[qDA h11,if_neg h11]
 by_cases h12:o=12
 ·subst h12
  rcases ss with _ | ⟨a,_ | ⟨b,_ | ⟨c,l⟩⟩⟩<;>simp[qHB] at hc
  ·by_cases q:a=2\/a=3<;>simp[grd,q]
  ·omega
 rw[qDA h12]
 by_cases h13:o=13
 ·subst h13
  rcases ss with _ | ⟨a,_ | ⟨b,_ | ⟨c,l⟩⟩⟩<;>simp[qHB] at hc
  ·by_cases q:a=2\/a=3<;>simp[grd,q]
  ·omega
 rw[qDA h13,if_neg (show ¬ (o=12\/o=13) by omega)]
 by_cases h14:o=14
 ·subst h14
  rcases ss with _ | ⟨a,l⟩<;>simp[qHB] at hc
  by_cases q:a=2\/a=3<;>simp[grd,q]
 rw[qDA h14,if_neg h14]
 by_cases h15':o=15
 ·subst h15'
  have h15:=h15 rfl
  rcases ss with _ | ⟨a,_ | ⟨b,_ | ⟨c,l⟩⟩⟩<;>simp[qHB] at hc
  ·by_cases q:f=3
   ·have:=h15 q
    simp at this
    simp[grd,q,this]
   ·simp[q,show (f==3)=false by simpa using q]
  ·omega
 rw[qDA h15',if_neg h15']
 by_cases h16:o=16
 ·subst h16
  rcases ss with _ | ⟨a,_ | ⟨b,l⟩⟩<;>simp[qHB] at hc
  ·simp
  ·omega
 rw[qDA h16]
 by_cases h17:o=17
 ·subst h17
  rcases ss with _ | ⟨a,_ | ⟨b,l⟩⟩<;>simp[qHB] at hc
  ·simp
  ·omega
 rw[qDA h17,if_neg (show ¬ (o=16\/o=17) by omega)]
 by_cases h20:o=20
 ·subst h20
  rcases ss with _ | ⟨a,_ | ⟨b,l⟩⟩<;>simp[qHB] at hc
  ·simp
  ·omega
 rw[qDA h20]
 by_cases h18:o=18
 ·subst h18
  rcases ss with _ | ⟨a,_ | ⟨b,_ | ⟨c,l⟩⟩⟩<;>simp[qHB] at hc
  ·by_cases q:a=4
   ·by_cases q2:b=2
    ·simp[grd,q,q2]
    ·simp[grd,q,q2,show (b==2)=false by simpa using q2]
   ·simp[grd,q,show (a==4)=false by simpa using q]
  ·omega
 rw[qDA h18,if_neg h18]
 obtain rfl:o=19:=by omega
 rcases ss with _ | ⟨a,_ | ⟨b,_ | ⟨c,_ | ⟨d,l⟩⟩⟩⟩<;>simp[qHB] at hc
 ·by_cases q:a=4
  ·by_cases q2:b=2
   ·by_cases q3:c=2
    ·simp[grd,q,q2,q3]
    ·simp[grd,q,q2,q3,show (c==2)=false by simpa using q3]
   ·simp[grd,q,q2,show (b==2)=false by simpa using q2]
  ·simp[grd,q,show (a==4)=false by simpa using q]
 ·omega
end Go.AM.Num
end
section
namespace Go.AM.Num
open Tf
theorem qZad {n:Nod} (h:qRC n=true):1<=nOp n/\nOp n<=20:=by
 unfold qRC at h
 split at h
 ·omega
 ·split at h
  ·omega
  ·split at h
   ·omega
   ·simp only[qY0,decide_eq_true_eq] at h
    exact h.1.1.1
theorem qTr {n:Nod} (h:qRC n=true) (ho:nOp n=3\/nOp n=4\/nOp n=5):1<=qJG n/\qJG n<=4:=by
 unfold qRC at h
 split at h
 ·simp only[qY0,Bool.or_eq_true,decide_eq_true_eq] at h
  rcases h.2 with h | h<;>omega
 ·rw[if_pos (by omega)] at h
  simp only[qY0,decide_eq_true_eq] at h
  exact h.1.1
theorem qKx {ss:List Int} (h:∀ s∈ss,0<=s/\s<=4) (i:Nat):0<=ss.getD i 0/\ss.getD i 0<=4:=by
 rw[qZ4]
 cases hi:ss[i]? with
 |none=>simp
 |some s=>exact h s (qY14 hi)
theorem qEr {n:Nod} {f:Int} {ss:List Int} (hf:qRC n=true) (h:∀ s∈ss,0<=s/\s<=4):0<=qXC n f ss/\qXC n f ss<=4:=by
 have g:=qKx h
 have g0:=g 0
 have g1:=g 1
 unfold qXC
 by_cases c0:nOp n=3\/nOp n=4\/nOp n=5
 ·rw[if_pos c0];have:=qTr hf c0;omega
 rw[if_neg c0]
 by_cases c1:nOp n=1\/nOp n=2\/nOp n=6\/nOp n=7\/nOp n=8\/nOp n=9
 ·rw[if_pos c1];split<;>omega
 rw[if_neg c1]
 by_cases c2:nOp n=10
 ·rw[if_pos c2];split<;>omega
 rw[if_neg c2]
 by_cases c3:nOp n=11
 ·rw[if_pos c3];split<;>omega
 rw[if_neg c3]
 by_cases c4:nOp n=12\/nOp n=13
 ·rw[if_pos c4];split<;>omega
 rw[if_neg c4]
 by_cases c5:nOp n=14
 ·rw[if_pos c5];split<;>omega
 rw[if_neg c5]
 by_cases c6:nOp n=15
 ·rw[if_pos c6];split<;>omega
 rw[if_neg c6]
 by_cases c7:nOp n=16\/nOp n=17
 ·rw[if_pos c7];split<;>omega
 rw[if_neg c7]
 by_cases c8:nOp n=18
 ·rw[if_pos c8];split<;>omega
 rw[if_neg c8]
 by_cases c9:nOp n=19
 ·rw[if_pos c9];split<;>omega
 rw[if_neg c9]
 by_cases c10:nOp n=20
 ·rw[if_pos c10];split<;>omega
 rw[if_neg c10];omega
theorem qKo:∀ (f:Tf),f.wf=true->∀ s∈f.srt,0<=s/\s<=4:=by
 intro f
 induction f with
 |nil=>intro _ s hs;simp[srt] at hs
 |cons n k r ik ir=>
  intro hw s hs
  obtain ⟨w1,w2,w3,w4⟩:=qGJ.1 hw
  simp only[srt,qY12] at hs
  rcases hs with rfl | hs
  ·split
   ·omega
   ·exact qEr (qWW.1 w1).1 (ik w3)
  ·exact ir w4 s hs
noncomputable def qSW (d L:Nat) (l:List Nod):Int×Int:=match one d l with
 |none=>(-1,0)
 |some (T,l')=>((L:Int) - (l'.length:Int),T.srt.getD 0 0)
abbrev TrF:=List Nod->Int->Int->Option ((Int×Int×Unit)×Unit)
def qOak (t:List Nod) (tr:TrF) (dp:Nat):Prop:=∀ i:Nat,tr t (i:Int) (dp:Int)=some (((qSW (257 - dp) t.length (t.drop i)).1,(qSW (257 - dp) t.length (t.drop i)).2,()),())
theorem qWae {d:Nat} {l l':List Nod} {T:Tf} (h:one d l=some (T,l')):T.size+l'.length=l.length/\T.srt.length=1:=by
 obtain ⟨h1,h2,h3,h4⟩:=qVX d h
 have:=congrArg List.length h1
 rw[qZ6,qVD] at this
 exact ⟨this.symm,by rw[qEM,h3]⟩
theorem qKu {d i:Nat} {t l':List Nod} {T:Tf} (h:one d (t.drop i)=some (T,l')) (hi:i<=t.length):t.drop (i+T.size)=l'/\i+T.size<=t.length/\(t.length:Int) - (l'.length:Int)=((i+T.size:Nat):Int):=by
 obtain ⟨h1,_,_,_⟩:=qVX d h
 have h2:=(qWae h).1
 rw[List.length_drop] at h2
 refine ⟨?_,by omega,by omega⟩
 rw[<-List.drop_drop,h1,List.drop_append_of_le_length (by rw[qVD];omega),qY7 (by rw[qVD];omega),qY15]
theorem qSz {t:List Nod} (ht:t.length<=20000) {tr:TrF} {dp:Nat} (hdp:dp<=256) (htr:qOak t tr (dp+1)) {i:Nat} (hi:i < t.length) {K:Int} (hK:(t.getD i qQE).2.2.2.2=K) :
 ∀ (c:Nat) (e k:Nat) (s:List Int) (good:Bool),e<=t.length->((k+c:Nat):Int)=K->s.length=k->k+c<=20000->
 match many (one (257 - (dp+1))) c (t.drop e) with
 |none=>∃ y,qPA (qQM tr) (t,(i:Int),(dp:Int),0,0,s,(e:Int),good,(k:Int),())=some (.ret,(t,(i:Int),(dp:Int),-1,0,y))
 |some (F,l')=>qPA (qQM tr) (t,(i:Int),(dp:Int),0,0,s,(e:Int),good,(k:Int),())=some (.exit 0,(t,(i:Int),(dp:Int),0,0,s++F.srt,(t.length:Int) - (l'.length:Int),good&&F.srt.all (fun x=>decide (x > 0)),K,())):=by
 intro c
 induction c with
 |zero=>
  intro e k s good he hk _ _
  simp only[many]
  refine qWA ?_ (by simp)
  unfold qQM
  simp only
  rw[qEA,qBA (by omega),qBA (by omega),qZ0,hK,qOA (by omega)]
  have e1:(t.length:Int) - ((t.drop e).length:Int)=(e:Int):=by rw[List.length_drop];omega
  have e2:K=(k:Int):=by omega
  rw[e1,e2]
  simp[srt]
 |succ c ih=>
  intro e k s good he hk hs hb
  have hcall:=htr e
  simp only[many]
  have hstep0:qQM tr (t,(i:Int),(dp:Int),0,0,s,(e:Int),good,(k:Int),())=(tr t (e:Int) (qI ((dp:Int)+1))).bind fun r1=>
   cond (decide (r1.1.1 < (0:Int))) (some (Ex.ret,(t,(i:Int),(dp:Int),-1,0,s,r1.1.1,good,(k:Int),())))
    (cond good (grd (decide (s.length+([r1.1.2.1]:List Int).length<=qWE)) (some (Ex.normal,(t,(i:Int),(dp:Int),0,0,s++([r1.1.2.1]:List Int),r1.1.1,decide (r1.1.2.1 > (0:Int)),qI ((k:Int)+(1:Int)),()))))
    (grd (decide (s.length+([r1.1.2.1]:List Int).length<=qWE)) (some (Ex.normal,(t,(i:Int),(dp:Int),0,0,s++([r1.1.2.1]:List Int),r1.1.1,false,qI ((k:Int)+(1:Int)),()))))):=by
   unfold qQM
   simp only
   rw[qEA,qBA (by omega),qBA (by omega),qZ0,hK,qIA (by omega)]
  have hwd:qI ((dp:Int)+1)=((dp+1:Nat):Int):=by rw[w64 (by omega)];rfl
  rw[hwd] at hstep0
  cases ho:one (257 - (dp+1)) (t.drop e) with
  |none=>
   have hcall':tr t (e:Int) ((dp+1:Nat):Int)=some ((-1,0,()),()):=by rw[hcall];unfold qSW;rw[ho]
   rw[hcall',qAA] at hstep0
   rw[qIA (show (-1:Int) < 0 by omega)] at hstep0
   simp only[Option.bind_none]
   exact ⟨_,qWA hstep0 (by simp)⟩
  |some x=>
   obtain ⟨T,l1⟩:=x
   obtain ⟨q1,q2⟩:=qWae ho
   obtain ⟨d1,d2,d3⟩:=qKu ho he
   obtain ⟨x,hx⟩:∃ x,T.srt=[x]:=by
    match h:T.srt,q2 with
    |[x],_=>exact ⟨x,rfl⟩
   have hcall':tr t (e:Int) ((dp+1:Nat):Int)=some ((((e+T.size:Nat):Int),x,()),()):=by
    rw[hcall];unfold qSW;rw[ho];simp only;rw[hx,d3];rfl
   rw[hcall',qAA] at hstep0
   rw[qOA (show ¬ ((e+T.size:Nat):Int) < 0 by omega)] at hstep0
   have hlen:s.length+1<=qWE:=by simp only[qWE];omega
   have hgo:qQM tr (t,(i:Int),(dp:Int),0,0,s,(e:Int),good,(k:Int),())=some (.normal,(t,(i:Int),(dp:Int),0,0,s++[x],((e+T.size:Nat):Int),good&&decide (x > 0),((k+1:Nat):Int),())):=by
    rw[hstep0,w64 (x:=(k:Int)+1) (by omega)]
    cases good
    ·simp only[qVA,Bool.false_and];rw[qBA (by simpa using hlen)];rfl
    ·simp only[qRA,Bool.true_and];rw[qBA (by simpa using hlen)];rfl
   have ih':=ih (e+T.size) (k+1) (s++[x]) (good&&decide (x > 0)) d2 (by omega) (by simp[hs]) (by omega)
   simp only[Option.bind_some]
   rw[d1] at ih'
   cases hm:many (one (257 - (dp+1))) c l1 with
   |none=>
    rw[hm] at ih'
    obtain ⟨y,hy⟩:=ih'
    simp only[Option.bind_none]
    exact ⟨y,by rw[qAB hgo,hy]⟩
   |some z=>
    obtain ⟨F,l'⟩:=z
    rw[hm] at ih'
    simp only[Option.bind_some] at ih' ⊢
    rw[qAB hgo,ih',qRa,hx]
    simp[Bool.and_assoc]
theorem qGai {f:Tf} (hw:f.wf=true):f.srt.all (fun x=>decide (x > 0))=!decide (0∈f.srt):=by
 have h:=qKo f hw
 generalize f.srt=l at h
 induction l with
 |nil=>rfl
 |cons a l ih=>
  have ha:=h a (by simp)
  rw[List.all_cons,ih fun s hs=>h s (by simp[hs])]
  by_cases h0:a=0
  ·subst h0;simp
  ·rw[qZ10 (show a > 0 by omega)]
   have:(0:Int)∈a::l ↔ 0∈l:=by simp;omega
   simp only[this,Bool.true_and]
theorem qYad {t:List Nod} (hs:qQQ t) (ht:t.length<=20000):∀ (f dp:Nat),dp<=257->258<=f+dp->qOak t (qSY f) dp:=by
 intro f
 induction f with
 |zero=>intro dp h1 h2;omega
 |succ f ih=>
  intro dp h1 h2 i
  have hunf:qSY (f+1) t (i:Int) (dp:Int)=qFd (qSY f) t (i:Int) (dp:Int):=rfl
  rw[hunf]
  unfold qFd
  by_cases hi:i>=t.length
  ·rw[qIA (by omega)]
   unfold qSW
   have e:t.drop i=[]:=qY7 hi
   rw[e]
   cases h:257 - dp<;>rfl
  rw[qOA (by omega)]
  by_cases hd:dp=257
  ·rw[qIA (by omega)]
   unfold qSW
   have e:257 - dp=0:=by omega
   rw[e]
   rfl
  rw[qOA (by omega)]
  have hi':i < t.length:=by omega
  have hget:t.getD i qQE=t[i]:=by simp[qZ4,hi']
  have hdrop:=qY6 hi'
  have hnum:=hs _ (List.getElem_mem hi')
  have hd1:257 - dp=(257 - (dp+1))+1:=by omega
  have hone:one (257 - dp) (t.drop i)=if okN t[i]=true then (many (one (257 - (dp+1))) (qEF t[i]).toNat (t.drop (i+1))).bind fun x=>some (cons t[i] x.1 nil,x.2) else none:=by rw[hd1,hdrop];rfl
  generalize t[i]=n at hget hnum hone
  have hg:∀ (k:Option ((Int×Int×Unit)×Unit)),grd (decide (0<=(i:Int))&&decide ((i:Int) < (t.length:Int))) k=k:=fun k=>by rw[qEA,qBA (by omega),qBA (by omega)]
  rw[hg,qZ0,hget,qCr (by omega),qAA]
  have hno:okN n=false->qSW (257 - dp) t.length (t.drop i)=(-1,0):=fun h=>by
   unfold qSW
   rw[hone,if_neg (by rw[h];decide)]
  by_cases q3:qRC n=false
  ·rw[q3,hno (by unfold okN;rw[q3];rfl)];rfl
  rw[Bool.not_eq_false] at q3
  rw[q3]
  simp only[qY2,qVA]
  rw[hg,hg,qEw,qAA]
  by_cases q4:qHB n.1 n.2.2.2.2=false
  ·rw[q4,hno (by unfold okN;rw[q4,Bool.and_false])];rfl
  rw[Bool.not_eq_false] at q4
  rw[q4]
  simp only[qY2,qVA]
  rw[hg]
  have hok:okN n=true:=qWW.2 ⟨q3,q4⟩
  rw[if_pos hok] at hone
  have hk0:=qAQ q4
  have hK:n.2.2.2.2=qEF n:=rfl
  rw[hK] at hk0 ⊢
  have hbound:∀ F l',many (one (257 - (dp+1))) (qEF n).toNat (t.drop (i+1))=some (F,l')->F.len=(qEF n).toNat/\F.wf=true/\t.drop (i+1)=F.flat++l'/\F.size+l'.length=t.length - (i+1):=by
   intro F l' hm
   obtain ⟨m1,m2,m3,m4⟩:=qBi (qVX _) _ hm
   have:=congrArg List.length m1
   rw[qZ6,qVD,List.length_drop] at this
   exact ⟨m3,m2,m1,this.symm⟩
  by_cases q5:qEF n > (t.length:Int)
  ·rw[qIA q5]
   have hm:many (one (257 - (dp+1))) (qEF n).toNat (t.drop (i+1))=none:=by
    cases hm:many (one (257 - (dp+1))) (qEF n).toNat (t.drop (i+1)) with
    |none=>rfl
    |some x=>
     obtain ⟨F,l'⟩:=x
     obtain ⟨b1,b2,b3,b4⟩:=hbound F l' hm
     have:=qPL F
     omega
   unfold qSW
   rw[hone,hm]
   rfl
  rw[qOA q5]
  have hwi:qI ((i:Int)+1)=((i+1:Nat):Int):=by rw[w64 (by omega)];rfl
  have hl:=qSz ht (dp:=dp) (by omega) (ih (dp+1) (by omega) (by omega)) hi' (K:=qEF n) (by rw[hget]) (qEF n).toNat (i+1) 0 [] true (by omega) (by omega) rfl (by omega)
  rw[show ((0:Nat):Int)=0 from rfl] at hl
  rw[hwi]
  cases hm:many (one (257 - (dp+1))) (qEF n).toNat (t.drop (i+1)) with
  |none=>
   rw[hm] at hl hone
   obtain ⟨y,hy⟩:=hl
   rw[hy]
   simp only[qAA,qDF,qCF,qRA,qVA]
   unfold qSW
   rw[hone]
   rfl
  |some x=>
   obtain ⟨F,l'⟩:=x
   obtain ⟨b1,b2,b3,b4⟩:=hbound F l' hm
   rw[hm] at hl hone
   simp only at hl
   rw[hl]
   simp only[qAA,qCC,qRA,qY15,Bool.true_and]
   rw[qGai b2]
   simp only[Option.bind_some] at hone
   have htree:qSW (257 - dp) t.length (t.drop i)=((t.length:Int) - (l'.length:Int),if 0∈F.srt then 0 else qXC n (op1 F) F.srt):=by
    unfold qSW
    rw[hone]
    rfl
   rw[htree]
   by_cases h0:(0:Int)∈F.srt
   ·rw[qZ10 h0,if_pos h0];rfl
   rw[qZ9 h0,if_neg h0]
   simp only[qY1,qY2,qVA]
   have hop:=qZad q3
   have hcl:qHB (nOp n) (F.srt.length:Int)=true:=by
    have e:(F.srt.length:Int)=qEF n:=by rw[qEM,b1];omega
    rw[e];exact q4
   have hsl:F.srt.length<=1000000000:=by rw[qEM];have:=qPL F;omega
   cases F with
   |nil=>
    rw[qOA (by simp[srt]),hg,qZ0,hget,qRf (f:=0) hop hsl hcl (fun _ h=>by omega),qAA]
    rfl
   |cons n1 k1 r1=>
    have hb:t.drop (i+1)=n1::(k1.flat++r1.flat++l'):=by rw[b3];simp[flat]
    obtain ⟨g1,g2⟩:=qOL (d:=qQE) hb
    obtain ⟨w1,w2,w3,w4⟩:=qGJ.1 b2
    obtain ⟨s1,s2,s3⟩:=qWM.1 h0
    rw[qIA (by simp[srt]),hwi,qEA,qBA (by omega),qBA (by omega),hg,qZ0,qZ0,hget,g1]
    rw[qRf (f:=n1.1) hop hsl hcl (fun _ h=>by
     have hsrt:(cons n1 k1 r1).srt.getD 0 0=qXC n1 (op1 k1) k1.srt:=by
      simp only[srt,qZ3]
      rw[if_neg s1]
     rw[hsrt]
     have h3:nOp n1=3:=h
     have:qXC n1 (op1 k1) k1.srt=qJG n1:=by unfold qXC;rw[if_pos (.inl h3)]
     rw[this]
     exact (qAz (qWW.1 w1).1 h3).1),qAA]
    rfl
end Go.AM.Num
end
section
namespace Go.AM.Num
open Tf
theorem qBac:∃ f,big=f/\258<=f:=⟨big,rfl,by decide⟩
theorem qSai {t rest:List Nod} {at':Nat} {n:Nod} {k r:Tf} (hd:t.drop at'=(cons n k r).flat++rest) (hw:(cons n k r).wf=true) (hdep:(cons n k r).dep<=257):one 257 (t.drop at')=some (cons n k nil,r.flat++rest):=by
 obtain ⟨w1,w2,w3,w4⟩:=qGJ.1 hw
 have e:(cons n k r).flat++rest=(cons n k nil).flat++(r.flat++rest):=by simp[flat]
 rw[hd,e]
 exact qXs _ (qGJ.2 ⟨w1,w2,w3,rfl⟩) rfl (by simp only[dep] at hdep ⊢;omega)
theorem qAao {t:List Nod} (hs:qQQ t) (ht:t.length<=20000) {p:Nat} (hp:p < t.length) {K:Int} (hK:(t.getD p qQE).2.2.2.2=K):∀ (r:Tf) (at':Nat) (rest:List Nod) (out:List Int) (idx:Nat),t.drop at'=r.flat++rest->r.wf=true->r.dep<=257->((idx+r.len:Nat):Int)=K->idx+r.len<=20000->out.length=idx->
 ∃ y,qPA qPG (t,(p:Int),out,(at':Int),(idx:Int),())=some (.exit 0,(t,(p:Int),out++r.srt,y)):=by
 intro r
 induction r with
 |nil=>
  intro at' rest out idx _ _ _ hk _ _
  simp only[len,Nat.add_zero] at hk
  refine ⟨_,qWA (y:=(t,(p:Int),out++[],(at':Int),(idx:Int),())) ?_ (by simp)⟩
  unfold qPG
  simp only
  rw[qEA,qBA (by omega),qBA (by omega),qZ0,hK,qOA (by omega),qY4]
 |cons n k r _ ir=>
  intro at' rest out idx hd hw hdep hk hb ho
  obtain ⟨w1,w2,w3,w4⟩:=qGJ.1 hw
  have hone:=qSai hd hw hdep
  obtain ⟨f,hf1,hf2⟩:=qBac
  have htr:=qYad hs ht f 0 (by omega) (by omega) at'
  rw[show ((0:Nat):Int)=0 from rfl] at htr
  have hat:at'<=t.length:=by
   rcases Nat.lt_or_ge t.length at' with h | h
   ·rw[qY7 (by omega)] at hd
    simp[flat] at hd
   ·exact h
  obtain ⟨d1,d2,d3⟩:=qKu hone hat
  have hts:qSW (257 - 0) t.length (t.drop at')=(((at'+(cons n k nil).size:Nat):Int),(cons n k nil).srt.getD 0 0):=by
   unfold qSW
   rw[show 257 - 0=257 from rfl,hone]
   simp only
   rw[d3]
  rw[hts] at htr
  simp only[len] at hk hb
  have hgo:qPG (t,(p:Int),out,(at':Int),(idx:Int),())=some (.normal,(t,(p:Int),out++[(cons n k nil).srt.getD 0 0],((at'+(cons n k nil).size:Nat):Int),((idx+1:Nat):Int),())):=by
   unfold qPG
   simp only
   rw[qEA,qBA (by omega),qBA (by omega),qZ0,hK,qIA (by omega),hf1,htr,qAA,qBA (by simp[qWE];omega),w64 (by omega)]
   rfl
  obtain ⟨y,hy⟩:=ir (at'+(cons n k nil).size) rest (out++[(cons n k nil).srt.getD 0 0]) (idx+1) d1 w4 (by simp only[dep] at hdep;omega) (by omega) (by omega) (by simp[ho])
  refine ⟨y,?_⟩
  rw[qAB hgo,hy]
  simp[srt]
theorem qUam {t:List Nod} (hs:qQQ t) (ht:t.length<=20000) {p:Nat} {n:Nod} {k:Tf} {rest:List Nod} (hd:t.drop p=n::(k.flat++rest)) (hn:qEF n=(k.len:Int)) (hw:k.wf=true) (hdep:k.dep<=257) (hk:k.size<=20000):qFQ t (p:Int)=some ((k.srt,()),()):=by
 obtain ⟨g1,g2⟩:=qOL (d:=qQE) hd
 have hkl:=qPL k
 have hd':t.drop (p+1)=k.flat++rest:=by
  have:=congrArg (List.drop 1) hd
  rw[List.drop_drop] at this
  simpa using this
 unfold qFQ
 obtain ⟨y,hy⟩:=qAao hs ht g2 (K:=(k.len:Int)) (by rw[g1];exact hn) k (p+1) rest [] 0 hd' hw hdep (by omega) (by omega) rfl
 rw[show ((0:Nat):Int)=0 from rfl] at hy
 rw[w64 (by omega)]
 have e:(p:Int)+1=((p+1:Nat):Int):=rfl
 rw[e,hy]
 simp only[qAA,qCC,qRA,qY15]
theorem qBaa {a b:List Int} (ha:a.length<=2000000000):qNR a b=some ((decide (a=b),()),()):=by
 unfold qNR
 by_cases hl:a.length=b.length
 ·rw[qRE (by omega)]
  have:=qCL (step:=qRJ) (fun k=>(a,b,false,(k:Int),())) (fun k=>(a,b,false,(k:Int),())) a.length (E:=.exit 0) (B:=.ret) (by simp) (by simp) (fun k=>decide (a.getD k 0=b.getD k 0)) (fun k hk=>by
   unfold qRJ
   simp only
   rw[qIA (by omega),qEA,qBA (by omega),qBA (by omega),qEA,qBA (by omega),qBA (by omega),qZ0,w64 (by omega)]
   by_cases h:a.getD k 0=b.getD k 0
   ·rw[qRE h,if_pos (qZ10 h)];rfl
   ·rw[qVE h,if_neg (fun e=>h (of_decide_eq_true e))]) (by
   unfold qRJ
   simp only
   rw[qOA (by omega)])
  rw[show ((0:Nat):Int)=0 from rfl] at this
  have heq:(List.range a.length).all (fun k=>decide (a.getD k 0=b.getD k 0))=decide (a=b):=by
   rw[Bool.eq_iff_iff,qY3,decide_eq_true_eq]
   constructor
   ·intro h
    refine List.ext_getElem hl fun k h1 h2=>?_
    have:=h k (List.mem_range.2 h1)
    simpa [qZ4,h1,h2] using this
   ·rintro rfl k _;simp
  rcases this with ⟨h1,h2⟩ | ⟨h1,k,h2⟩
  ·rw[h2,<-heq,h1];simp only[qAA,qCC,qRA]
  ·rw[h2,<-heq,h1];simp only[qAA,qDF,qCF,qRA,qVA]
 ·rw[qVE (by omega),qZ9 (fun e=>hl (by rw[e]))]
abbrev Fv:=qBs×List Int×Int
structure UI (us:List Us) (vars:List Vr) (funcs:List Fv):Prop where
 w:∀ a∈us,(a.2.1=false/\a.2.2.1=[])\/a.2.1=true
 c:∀ a∈us,∀ b∈us,a.1=b.1->a.2.1=b.2.1->a=b
 v1:∀ x∈vars,(x.1,false,[],x.2)∈us
 v2:∀ nm s,(nm,false,[],s)∈us->(nm,s)∈vars
 f1:∀ x∈funcs,(x.1,true,x.2.1,x.2.2)∈us
 f2:∀ nm a s,(nm,true,a,s)∈us->(nm,a,s)∈funcs
theorem UI.nil:UI [] [] []:=⟨fun a h=>absurd h qY16,fun a h=>absurd h qY16,fun a h=>absurd h qY16,fun _ _ h=>absurd h qY16,fun a h=>absurd h qY16,fun _ _ _ h=>absurd h qY16⟩
theorem UI.again {us:List Us} {vars:List Vr} {funcs:List Fv} (h:UI us vars funcs) {u:Us} (hu:u∈us):UI (us++[u]) vars funcs:=by
 have hm:∀ a,a∈us++[u] ↔ a∈us:=fun a=>by
  rw[qZ7,qZ8]
  exact ⟨fun h=>h.elim id fun e=>e ▸ hu,.inl⟩
 exact ⟨fun a ha=>h.w a ((hm a).1 ha),fun a ha b hb=>h.c a ((hm a).1 ha) b ((hm b).1 hb),fun x hx=>(hm _).2 (h.v1 x hx),fun nm s hx=>h.v2 nm s ((hm _).1 hx),fun x hx=>(hm _).2 (h.f1 x hx),fun nm a s hx=>h.f2 nm a s ((hm _).1 hx)⟩
theorem UI.snoc_c {us:List Us} {vars:List Vr} {funcs:List Fv} (h:UI us vars funcs) {u:Us} (hu:∀ a∈us,a.1=u.1->a.2.1=u.2.1->a=u):∀ a∈us++[u],∀ b∈us++[u],a.1=b.1->a.2.1=b.2.1->a=b:=by
 intro a ha b hb e1 e2
 rcases List.mem_append.1 ha with ha1 | ha1
 ·rcases List.mem_append.1 hb with hb1 | hb1
  ·exact h.c a ha1 b hb1 e1 e2
  ·rw[qZ8] at hb1
   rw[hb1] at e1 e2 ⊢
   exact hu a ha1 e1 e2
 ·rw[qZ8] at ha1
  rw[ha1] at e1 e2 ⊢
  rcases List.mem_append.1 hb with hb1 | hb1
  ·exact (hu b hb1 e1.symm e2.symm).symm
  ·rw[qZ8] at hb1;exact hb1.symm
theorem UI.addV {us:List Us} {vars:List Vr} {funcs:List Fv} (h:UI us vars funcs) {nm:qBs} {s:Int} (hn:∀ x∈vars,x.1≠nm):UI (us++[(nm,false,[],s)]) (vars++[(nm,s)]) funcs:=by
 refine ⟨fun a ha=>?_,h.snoc_c fun a ha e1 e2=>?_,fun x hx=>?_,fun m x hx=>?_,fun x hx=>List.mem_append_left _ (h.f1 x hx),fun m a x hx=>?_⟩
 ·rcases List.mem_append.1 ha with ha | ha
  ·exact h.w a ha
  ·rw[qZ8] at ha;subst ha;exact .inl ⟨rfl,rfl⟩
 ·exfalso
  obtain ⟨m,b,l,z⟩:=a
  simp only at e1 e2
  subst e1;subst e2
  rcases h.w _ ha with ⟨_,q⟩ | q
  ·simp only at q;subst q
   exact hn _ (h.v2 _ _ ha) rfl
  ·cases q
 ·rcases List.mem_append.1 hx with hx | hx
  ·exact List.mem_append_left _ (h.v1 x hx)
  ·rw[qZ8] at hx;subst hx;simp
 ·rcases List.mem_append.1 hx with hx | hx
  ·exact List.mem_append_left _ (h.v2 m x hx)
  ·rw[qZ8] at hx;cases hx;simp
 ·rcases List.mem_append.1 hx with hx | hx
  ·exact h.f2 m a x hx
  ·rw[qZ8] at hx;cases hx
theorem UI.addF {us:List Us} {vars:List Vr} {funcs:List Fv} (h:UI us vars funcs) {nm:qBs} {l:List Int} {s:Int} (hn:∀ x∈funcs,x.1≠nm):UI (us++[(nm,true,l,s)]) vars (funcs++[(nm,l,s)]):=by
 refine ⟨fun a ha=>?_,h.snoc_c fun a ha e1 e2=>?_,fun x hx=>List.mem_append_left _ (h.v1 x hx),fun m x hx=>?_,fun x hx=>?_,fun m a x hx=>?_⟩
 ·rcases List.mem_append.1 ha with ha | ha
  ·exact h.w a ha
  ·rw[qZ8] at ha;subst ha;exact .inr rfl
 ·exfalso
  obtain ⟨m,b,l',z⟩:=a
  simp only at e1 e2
  subst e1;subst e2
  exact hn _ (h.f2 _ _ _ ha) rfl
 ·rcases List.mem_append.1 hx with hx | hx
  ·exact h.v2 m x hx
  ·rw[qZ8] at hx;cases hx
 ·rcases List.mem_append.1 hx with hx | hx
  ·exact List.mem_append_left _ (h.f1 x hx)
  ·rw[qZ8] at hx;subst hx;simp
 ·rcases List.mem_append.1 hx with hx | hx
  ·exact List.mem_append_left _ (h.f2 m a x hx)
  ·rw[qZ8] at hx;cases hx;simp
theorem qPad {t:List Nod} {vars:List Vr} {funcs:List Fv} {i:Nat} {n:Nod} (hi:i < t.length) (hn:t.getD i qQE=n) (hl:vars.length<=20000):∀ (m q:Nat) (known:Bool),q+m=vars.length->
 ((∃ x∈vars.drop q,x.1=n.2.2.1/\x.2≠n.2.1)/\∃ y,qPA qGH (t,false,vars,funcs,(i:Int),known,(q:Int),())=some (.ret,(t,false,vars,funcs,(i:Int),y)))\/
 ((∀ x∈vars.drop q,x.1=n.2.2.1->x.2=n.2.1)/\qPA qGH (t,false,vars,funcs,(i:Int),known,(q:Int),())=some (.exit 3,(t,false,vars,funcs,(i:Int),known||(vars.drop q).any (fun x=>decide (x.1=n.2.2.1)),(vars.length:Int),()))):=by
 intro m
 induction m with
 |zero=>
  intro q known hq
  have e:vars.drop q=[]:=qY7 (by omega)
  rw[e]
  refine .inr ⟨fun x hx=>absurd hx qY16,qWA ?_ (by simp)⟩
  unfold qGH
  simp only
  rw[qOA (by omega)]
  have:q=vars.length:=by omega
  rw[this]
  simp
 |succ m ih=>
  intro q known hq
  have hql:q < vars.length:=by omega
  have hd:=qY6 hql
  have hg:vars.getD q zVr=vars[q]:=by simp[qZ4,hql]
  rw[hd]
  generalize vars[q]=x at hg hd
  have hstep:qGH (t,false,vars,funcs,(i:Int),known,(q:Int),())=if x.1=n.2.2.1 then (if x.2=n.2.1 then some (.normal,(t,false,vars,funcs,(i:Int),true,((q+1:Nat):Int),())) else some (.ret,(t,false,vars,funcs,(i:Int),true,(q:Int),()))) else some (.normal,(t,false,vars,funcs,(i:Int),known,((q+1:Nat):Int),())):=by
   unfold qGH
   simp only
   rw[qIA (by omega),qEA,qBA (by omega),qBA (by omega),qZ0,qZ0,qBA hql,qEA,qBA (by omega),qBA (by omega),hg,hn,w64 (by omega)]
   by_cases h1:x.1=n.2.2.1
   ·rw[show (x.1==n.2.2.1)=true by simpa using h1,if_pos h1,qRA,qEA,qBA (by omega),qBA (by omega),qBA hql,qEA,qBA (by omega),qBA (by omega)]
    by_cases h2:x.2=n.2.1
    ·rw[qRE h2,if_pos h2];rfl
    ·rw[qVE h2,if_neg h2]
   ·rw[show (x.1==n.2.2.1)=false by simpa using h1,if_neg h1,qVA];rfl
  by_cases h1:x.1=n.2.2.1
  ·rw[if_pos h1] at hstep
   by_cases h2:x.2=n.2.1
   ·rw[if_pos h2] at hstep
    rcases ih (q+1) true (by omega) with ⟨⟨z,z1,z2⟩,y,hy⟩ | ⟨hz,hy⟩
    ·exact .inl ⟨⟨z,qY13 _ z1,z2⟩,y,by rw[qAB hstep,hy]⟩
    ·refine .inr ⟨fun z hz' e=>?_,?_⟩
     ·rcases List.mem_cons.1 hz' with rfl | hz'
      ·exact h2
      ·exact hz z hz' e
     ·rw[qAB hstep,hy,List.any_cons,qZ10 h1];simp
   ·rw[if_neg h2] at hstep
    exact .inl ⟨⟨x,by simp,h1,h2⟩,_,qWA hstep (by simp)⟩
  ·rw[if_neg h1] at hstep
   rcases ih (q+1) known (by omega) with ⟨⟨z,z1,z2⟩,y,hy⟩ | ⟨hz,hy⟩
   ·exact .inl ⟨⟨z,qY13 _ z1,z2⟩,y,by rw[qAB hstep,hy]⟩
   ·refine .inr ⟨fun z hz' e=>?_,?_⟩
    ·rcases List.mem_cons.1 hz' with rfl | hz'
     ·exact absurd e h1
     ·exact hz z hz' e
    ·rw[qAB hstep,hy,List.any_cons,qZ9 h1,Bool.false_or]
theorem qAv {t:List Nod} {vars:List Vr} {funcs:List Fv} {i:Nat} {g:Fv} (hl:funcs.length<=20000) (hfl:∀ x∈funcs,x.2.1.length<=20000):∀ (m q:Nat) (known:Bool),q+m=funcs.length->
 ((∃ x∈funcs.drop q,x.1=g.1/\x≠g)/\∃ y,qPA qEH (t,false,vars,funcs,(i:Int),g,known,(q:Int),())=some (.ret,(t,false,vars,funcs,(i:Int),y)))\/
 ((∀ x∈funcs.drop q,x.1=g.1->x=g)/\qPA qEH (t,false,vars,funcs,(i:Int),g,known,(q:Int),())=some (.exit 5,(t,false,vars,funcs,(i:Int),g,known||(funcs.drop q).any (fun x=>decide (x.1=g.1)),(funcs.length:Int),()))):=by
 intro m
 induction m with
 |zero=>
  intro q known hq
  have e:funcs.drop q=[]:=qY7 (by omega)
  rw[e]
  refine .inr ⟨fun x hx=>absurd hx qY16,qWA ?_ (by simp)⟩
  unfold qEH
  simp only
  rw[qOA (by omega)]
  have:q=funcs.length:=by omega
  rw[this]
  simp
 |succ m ih=>
  intro q known hq
  have hql:q < funcs.length:=by omega
  have hd:=qY6 hql
  have hg:funcs.getD q (([]:qBs),([]:List Int),(0:Int))=funcs[q]:=by simp[qZ4,hql]
  have hxl:=hfl _ (List.getElem_mem hql)
  rw[hd]
  generalize funcs[q]=x at hg hd hxl
  obtain ⟨xn,xa,xr⟩:=x
  obtain ⟨gn,ga,gr⟩:=g
  simp only at hxl
  have hstep:qEH (t,false,vars,funcs,(i:Int),(gn,ga,gr),known,(q:Int),())=if xn=gn then (if (xn,xa,xr)=(gn,ga,gr) then some (.normal,(t,false,vars,funcs,(i:Int),(gn,ga,gr),true,((q+1:Nat):Int),())) else some (.ret,(t,false,vars,funcs,(i:Int),(gn,ga,gr),true,(q:Int),()))) else some (.normal,(t,false,vars,funcs,(i:Int),(gn,ga,gr),known,((q+1:Nat):Int),())):=by
   unfold qEH
   simp only
   rw[qIA (by omega),qEA,qBA (by omega),qBA (by omega),qZ0,qBA hql,hg,w64 (by omega)]
   by_cases h1:xn=gn
   ·rw[show (xn==gn)=true by simpa using h1,if_pos h1,qRA,qEA,qBA (by omega),qBA (by omega),qBA hql]
    by_cases h2:xr=gr
    ·rw[qRE h2,qEA,qBA (by omega),qBA (by omega),qBA hql,qBaa (show xa.length<=2000000000 by omega),qAA]
     by_cases h3:xa=ga
     ·rw[qZ10 h3,if_pos (by rw[h1,h2,h3])];rfl
     ·rw[qZ9 h3,if_neg (fun e=>h3 (by cases e;rfl))];rfl
    ·rw[qVE h2,if_neg (fun e=>h2 (by cases e;rfl))]
   ·rw[show (xn==gn)=false by simpa using h1,if_neg h1,qVA];rfl
  by_cases h1:xn=gn
  ·rw[if_pos h1] at hstep
   by_cases h2:(xn,xa,xr)=(gn,ga,gr)
   ·rw[if_pos h2] at hstep
    rcases ih (q+1) true (by omega) with ⟨⟨z,z1,z2⟩,y,hy⟩ | ⟨hz,hy⟩
    ·exact .inl ⟨⟨z,qY13 _ z1,z2⟩,y,by rw[qAB hstep,hy]⟩
    ·refine .inr ⟨fun z hz' e=>?_,?_⟩
     ·rcases List.mem_cons.1 hz' with rfl | hz'
      ·exact h2
      ·exact hz z hz' e
     ·rw[qAB hstep,hy,List.any_cons,qZ10 h1];simp
   ·rw[if_neg h2] at hstep
    exact .inl ⟨⟨_,by simp,h1,h2⟩,_,qWA hstep (by simp)⟩
  ·rw[if_neg h1] at hstep
   rcases ih (q+1) known (by omega) with ⟨⟨z,z1,z2⟩,y,hy⟩ | ⟨hz,hy⟩
   ·exact .inl ⟨⟨z,qY13 _ z1,z2⟩,y,by rw[qAB hstep,hy]⟩
   ·refine .inr ⟨fun z hz' e=>?_,?_⟩
    ·rcases List.mem_cons.1 hz' with rfl | hz'
     ·exact absurd e h1
     ·exact hz z hz' e
    ·rw[qAB hstep,hy,List.any_cons,qZ9 h1,Bool.false_or]
end Go.AM.Num
end
section
namespace Go.AM.Num
open Tf
theorem qPag {F:Tf} {t:List Nod} (hs:qQQ t) (hF:F.flat=t) (hw:F.wf=true) (h0:(0:Int)∉F.srt) (hz:F.size<=20000) (hdep:F.dep<=257) {p:Nat} (hp:p < F.size) {vars:List Vr} {funcs:List Fv}
 (hI:UI (qGT F p) vars funcs) (hl:vars.length<=p) (hm:funcs.length<=p) :
 (¬ Cns (qGT F (p+1))/\∃ x,qWG (t,false,vars,funcs,(p:Int),())=some (.ret,(t,false,x)))\/
 ∃ vars' funcs',UI (qGT F (p+1)) vars' funcs'/\vars'.length<=p+1/\funcs'.length<=p+1/\qWG (t,false,vars,funcs,(p:Int),())=some (.normal,(t,false,vars',funcs',((p+1:Nat):Int),())):=by
 obtain ⟨n,k,x,rest,rest2,h1,h2,h3⟩:=qCak F 0 p hp
 obtain ⟨g1,g2⟩:=qOL (d:=qQE) h2
 have hmem:(n,k)∈F.subs:=qY14 h1
 obtain ⟨w1,w2,w3,w4⟩:=qAak hw h0 hmem
 have hks:=qBd hmem
 have htl:t.length=F.size:=by rw[<-hF,qVD]
 rw[hF] at g1 h2
 have hwp:qI ((p:Int)+1)=((p+1:Nat):Int):=by rw[w64 (by omega)];rfl
 have hT:=qUi h1
 have hkd:k.dep<=257:=by
  have:∀ (f:Tf),(n,k)∈f.subs->k.dep<=f.dep:=by
   intro f
   induction f with
   |nil=>intro h;simp[subs] at h
   |cons a b c ib ic=>
    intro h
    simp only[subs,qY12,qZ7,Prod.mk.injEq] at h
    simp only[dep]
    rcases h with ⟨rfl,rfl⟩ | h | h
    ·omega
    ·have:=ib h;omega
    ·have:=ic h;omega
  have:=this F hmem
  omega
 unfold qWG
 simp only
 rw[qIA (by omega),qEA,qBA (by omega),qBA (by omega),qZ0,g1]
 by_cases e4:n.1=4
 ·have hu:qRR (n,k)=some (n.2.2.1,false,[],n.2.1):=by unfold qRR;rw[if_pos e4]
  rw[hu] at hT
  rw[qHA e4]
  rcases qPad (funcs:=funcs) (t:=t) (i:=p) (n:=n) (by omega) g1 (show vars.length<=20000 by omega) vars.length 0 false (by omega) with ⟨⟨y,y1,y2,y3⟩,z,hz'⟩ | ⟨hy,hz'⟩
  ·rw[show ((0:Nat):Int)=0 from rfl] at hz'
   rw[hz']
   simp only[qAA,qDF,qCF,qRA,qVA]
   refine .inl ⟨fun hc=>y3 ?_,_,rfl⟩
   rw[hT] at hc
   have hy1:=hI.v1 y (by simpa using y1)
   have:=hc _ (List.mem_append_left _ hy1) (n.2.2.1,false,[],n.2.1) (by simp) y2
   simp only[Prod.mk.injEq] at this
   exact this.2.2.2
  ·rw[show ((0:Nat):Int)=0 from rfl] at hz'
   rw[hz']
   simp only[qAA,qCC,qRA,Bool.false_or,List.drop_zero]
   by_cases hk:(vars.any fun x=>decide (x.1=n.2.2.1))=true
   ·rw[hk]
    simp only[qY2,qVA,hwp]
    obtain ⟨y,y1,y2⟩:=List.any_eq_true.1 hk
    have y2':y.1=n.2.2.1:=of_decide_eq_true y2
    have hy1:=hI.v1 y y1
    have e2:=hy y (by simpa using y1) y2'
    rw[y2',e2] at hy1
    exact .inr ⟨_,_,by rw[hT];exact hI.again hy1,by omega,by omega,rfl⟩
   ·rw[Bool.not_eq_true] at hk
    rw[hk]
    simp only[qY1,qRA]
    rw[qEA,qBA (by omega),qBA (by omega),qEA,qBA (by omega),qBA (by omega),qBA (by simp[qWE];omega),qZ0,g1,hwp]
    have hx:∀ y∈vars,y.1≠n.2.2.1:=fun y hy1 e=>List.any_eq_false.1 hk y hy1 (qZ10 e)
    exact .inr ⟨_,_,by rw[hT];exact hI.addV hx,by simp;omega,by omega,rfl⟩
 ·rw[qDA e4]
  by_cases e5:n.1=5
  ·have hu:qRR (n,k)=some (n.2.2.1,true,k.srt,n.2.1):=by unfold qRR;rw[if_neg e4,if_pos e5]
   rw[hu] at hT
   rw[qHA e5]
   have hfa:qCd t (p:Int)=some (((n.2.2.1,k.srt,n.2.1),()),()):=by
    unfold qCd
    rw[qEA,qBA (by omega),qBA (by omega),qUam hs (by omega) h2 w2 w3 hkd (by omega),qAA,qEA,qBA (by omega),qBA (by omega),qZ0,g1]
   rw[hfa,qAA]
   have hfl:∀ x∈funcs,x.2.1.length<=20000:=by
    intro y hy
    have hb2:=hI.f1 y hy
    obtain ⟨⟨n',k'⟩,m1,m2⟩:=List.mem_filterMap.1 (qNZ _ hb2)
    unfold qRR at m2
    split at m2
    ·simp at m2
    ·split at m2
     ·simp only[Option.some.injEq,Prod.mk.injEq] at m2
      rw[<-m2.2.2.1,qEM]
      have:=qBd m1;have:=qPL k';omega
     ·cases m2
   rcases qAv (t:=t) (vars:=vars) (i:=p) (g:=(n.2.2.1,k.srt,n.2.1)) (show funcs.length<=20000 by omega) hfl funcs.length 0 false (by omega) with ⟨⟨y,y1,y2,y3⟩,z,hz'⟩ | ⟨hy,hz'⟩
   ·rw[show ((0:Nat):Int)=0 from rfl] at hz'
    simp only
    rw[hz']
    simp only[qAA,qDF,qCF,qRA,qVA]
    refine .inl ⟨fun hc=>y3 ?_,_,rfl⟩
    rw[hT] at hc
    have hy1:=hI.f1 y (by simpa using y1)
    have:=hc _ (List.mem_append_left _ hy1) (n.2.2.1,true,k.srt,n.2.1) (by simp) y2
    obtain ⟨ya,yb,yc⟩:=y
    simp only[Prod.mk.injEq,true_and] at this ⊢
    exact this
   ·rw[show ((0:Nat):Int)=0 from rfl] at hz'
    simp only
    rw[hz']
    simp only[qAA,qCC,qRA,Bool.false_or,List.drop_zero]
    by_cases hk:(funcs.any fun x=>decide (x.1=n.2.2.1))=true
    ·rw[hk]
     simp only[qY2,qVA,hwp]
     obtain ⟨y,y1,y2⟩:=List.any_eq_true.1 hk
     have y2':y.1=n.2.2.1:=of_decide_eq_true y2
     have hy1:=hI.f1 y y1
     have e2:=hy y (by simpa using y1) y2'
     rw[e2] at hy1
     exact .inr ⟨_,_,by rw[hT];exact hI.again hy1,by omega,by omega,rfl⟩
    ·rw[Bool.not_eq_true] at hk
     rw[hk]
     simp only[qY1,qRA]
     rw[qBA (by simp[qWE];omega),hwp]
     have hx:∀ y∈funcs,y.1≠n.2.2.1:=fun y hy1 e=>List.any_eq_false.1 hk y hy1 (qZ10 e)
     exact .inr ⟨_,_,by rw[hT];exact hI.addF hx,by omega,by simp;omega,rfl⟩
  ·have hu:qRR (n,k)=none:=by unfold qRR;rw[if_neg e4,if_neg e5]
   rw[hu] at hT
   rw[qDA e5,hwp]
   exact .inr ⟨_,_,by rw[hT];simpa using hI,by omega,by omega,rfl⟩
theorem qLai {F:Tf} {t:List Nod} (hs:qQQ t) (hF:F.flat=t) (hw:F.wf=true) (h0:(0:Int)∉F.srt) (hz:F.size<=20000) (hdep:F.dep<=257):∀ (m p:Nat) (vars:List Vr) (funcs:List Fv),p+m=F.size->
 UI (qGT F p) vars funcs->vars.length<=p->funcs.length<=p->
 (¬ Cns (qQp F)/\∃ x,qPA qWG (t,false,vars,funcs,(p:Int),())=some (.ret,(t,false,x)))\/
 ∃ vars' funcs' y,UI (qQp F) vars' funcs'/\vars'.length<=20000/\funcs'.length<=20000/\qPA qWG (t,false,vars,funcs,(p:Int),())=some (.exit 0,(t,false,vars',funcs',y)):=by
 have htl:t.length=F.size:=by rw[<-hF,qVD]
 intro m
 induction m with
 |zero=>
  intro p vars funcs hp hI hl hm
  have e:qGT F p=qQp F:=by unfold qGT qQp;rw[List.take_of_length_le (by rw[qBY];omega)]
  rw[e] at hI
  exact .inr ⟨vars,funcs,_,hI,by omega,by omega,qWA (by unfold qWG;simp only;rw[qOA (by omega)]) (by simp)⟩
 |succ m ih=>
  intro p vars funcs hp hI hl hm
  rcases qPag hs hF hw h0 hz hdep (p:=p) (by omega) hI hl hm with ⟨h1,x,h2⟩ | ⟨vars',funcs',h1,h2,h3,h4⟩
  ·exact .inl ⟨fun hc=>h1 (hc.mono qNZ),x,qWA h2 (by simp)⟩
  ·rw[qAB h4]
   exact ih (p+1) vars' funcs' (by omega) h1 h2 h3
theorem qRah {vars:List Vr} {funcs:List Fv} (hl:funcs.length<=20000) {i:Nat} (hi:i < vars.length):∀ (m q:Nat),q+m=funcs.length->
 ((∃ g∈funcs.drop q,(vars.getD i zVr).1=g.1)/\∃ y,qPA qKH (false,vars,funcs,(i:Int),(q:Int),())=some (.ret,(false,vars,funcs,(i:Int),y)))\/
 ((∀ g∈funcs.drop q,(vars.getD i zVr).1≠g.1)/\∃ y,qPA qKH (false,vars,funcs,(i:Int),(q:Int),())=some (.exit 9,(false,vars,funcs,(i:Int),y))):=by
 intro m
 induction m with
 |zero=>
  intro q hq
  have e:funcs.drop q=[]:=qY7 (by omega)
  rw[e]
  exact .inr ⟨fun x hx=>absurd hx qY16,_,qWA (by unfold qKH;simp only;rw[qOA (by omega)]) (by simp)⟩
 |succ m ih=>
  intro q hq
  have hql:q < funcs.length:=by omega
  have hd:=qY6 hql
  have hg:funcs.getD q (([]:qBs),([]:List Int),(0:Int))=funcs[q]:=by simp[qZ4,hql]
  rw[hd]
  generalize funcs[q]=x at hg hd
  have hstep:qKH (false,vars,funcs,(i:Int),(q:Int),())=if (vars.getD i zVr).1=x.1 then some (.ret,(false,vars,funcs,(i:Int),(q:Int),())) else some (.normal,(false,vars,funcs,(i:Int),((q+1:Nat):Int),())):=by
   unfold qKH
   simp only
   rw[qIA (by omega),qEA,qBA (by omega),qBA (by omega),qZ0,qZ0,qBA hi,qEA,qBA (by omega),qBA (by omega),qBA hql,hg,w64 (by omega)]
   by_cases h1:(vars.getD i zVr).1=x.1
   ·rw[show ((vars.getD i zVr).1==x.1)=true from beq_iff_eq.2 h1,if_pos h1,qRA]
   ·rw[show ((vars.getD i zVr).1==x.1)=false from beq_eq_false_iff_ne.2 h1,if_neg h1,qVA];rfl
  by_cases h1:(vars.getD i zVr).1=x.1
  ·rw[if_pos h1] at hstep
   exact .inl ⟨⟨x,by simp,h1⟩,_,qWA hstep (by simp)⟩
  ·rw[if_neg h1] at hstep
   rcases ih (q+1) (by omega) with ⟨⟨z,z1,z2⟩,y,hy⟩ | ⟨hz,y,hy⟩
   ·exact .inl ⟨⟨z,qY13 _ z1,z2⟩,y,by rw[qAB hstep,hy]⟩
   ·refine .inr ⟨fun z hz'=>?_,y,by rw[qAB hstep,hy]⟩
    rcases List.mem_cons.1 hz' with rfl | hz'
    ·exact h1
    ·exact hz z hz'
theorem qCaf {vars:List Vr} {funcs:List Fv} (hv:vars.length<=20000) (hl:funcs.length<=20000):∀ (m i:Nat),i+m=vars.length->
 ((∃ v∈vars.drop i,∃ g∈funcs,v.1=g.1)/\∃ y,qPA qDG (false,vars,funcs,(i:Int),())=some (.ret,(false,y)))\/
 ((∀ v∈vars.drop i,∀ g∈funcs,v.1≠g.1)/\∃ y,qPA qDG (false,vars,funcs,(i:Int),())=some (.exit 7,y)):=by
 intro m
 induction m with
 |zero=>
  intro i hi
  have e:vars.drop i=[]:=qY7 (by omega)
  rw[e]
  exact .inr ⟨fun x hx=>absurd hx qY16,_,qWA (by unfold qDG;simp only;rw[qOA (by omega)]) (by simp)⟩
 |succ m ih=>
  intro i hi
  have hil:i < vars.length:=by omega
  have hd:=qY6 hil
  have hg:vars.getD i zVr=vars[i]:=by simp[qZ4,hil]
  have hin:=qRah (vars:=vars) hl hil funcs.length 0 (by omega)
  rw[hg] at hin
  rw[hd]
  generalize vars[i]=x at hg hd hin
  rw[List.drop_zero,show ((0:Nat):Int)=0 from rfl] at hin
  rcases hin with ⟨⟨g,g1,g2⟩,y,hy⟩ | ⟨hn,y,hy⟩
  ·refine .inl ⟨⟨x,by simp,g,g1,g2⟩,_,qWA (y:=(false,vars,funcs,(i:Int),())) ?_ (by simp)⟩
   unfold qDG
   simp only
   rw[qIA (by omega),hy]
   simp only[qAA,qDF,qCF,qRA,qVA]
  ·have hgo:qDG (false,vars,funcs,(i:Int),())=some (.normal,(false,vars,funcs,((i+1:Nat):Int),())):=by
    unfold qDG
    simp only
    rw[qIA (by omega),hy]
    simp only[qAA,qCC,qRA]
    rw[w64 (by omega)]
    rfl
   rcases ih (i+1) (by omega) with ⟨⟨v,v1,v2⟩,y,hy⟩ | ⟨hz,y,hy⟩
   ·exact .inl ⟨⟨v,qY13 _ v1,v2⟩,y,by rw[qAB hgo,hy]⟩
   ·refine .inr ⟨fun z hz'=>?_,y,by rw[qAB hgo,hy]⟩
    rcases List.mem_cons.1 hz' with rfl | hz'
    ·exact hn
    ·exact hz z hz'
theorem qTm {F:Tf} {t:List Nod} (hs:qQQ t) (hF:F.flat=t) (hw:F.wf=true) (h0:(0:Int)∉F.srt) (hz:F.size<=20000) (hdep:F.dep<=257):∃ b,qGZ t=some ((b,()),())/\(b=true ↔ Cns (qQp F)):=by
 unfold qGZ
 rcases qLai hs hF hw h0 hz hdep F.size 0 [] [] (by omega) UI.nil (by simp) (by simp) with ⟨h1,x,h2⟩ | ⟨vars,funcs,y,h1,h2,h3,h4⟩
 ·rw[show ((0:Nat):Int)=0 from rfl] at h2
  rw[h2]
  simp only[qAA,qDF,qCF,qRA,qVA]
  exact ⟨false,rfl,fun h=>(by cases h),fun h=>absurd h h1⟩
 ·rw[show ((0:Nat):Int)=0 from rfl] at h4
  rw[h4]
  simp only[qAA,qCC,qRA]
  rcases qCaf h2 h3 vars.length 0 (by omega) with ⟨⟨v,v1,g,g1,e⟩,y,hy⟩ | ⟨hn,y,hy⟩
  ·rw[show ((0:Nat):Int)=0 from rfl] at hy
   rw[hy]
   simp only[qAA,qDF,qCF,qRA,qVA]
   refine ⟨false,rfl,fun h=>(by cases h),fun hc=>?_⟩
   have:=hc _ (h1.v1 v (by simpa using v1)) _ (h1.f1 g g1) e
   simp at this
  ·rw[show ((0:Nat):Int)=0 from rfl] at hy
   rw[hy]
   simp only[qAA,qCC,qRA]
   refine ⟨true,rfl,fun _=>?_,fun _=>rfl⟩
   intro a ha b hb e
   obtain ⟨an,ab,al,azs'⟩:=a
   obtain ⟨bn,bb,bl,bs⟩:=b
   simp only at e
   subst e
   rcases h1.w _ ha with ⟨p1,p2⟩ | p1<;>rcases h1.w _ hb with ⟨q1,q2⟩ | q1<;>simp only at p1 q1
   ·exact h1.c _ ha _ hb rfl (by simp only;rw[p1,q1])
   ·simp only at p2
    subst p1;subst p2;subst q1
    exact absurd rfl (hn _ (by simpa using h1.v2 _ _ ha) _ (h1.f2 _ _ _ hb))
   ·simp only at q2
    subst p1;subst q2;subst q1
    exact absurd rfl (hn _ (by simpa using h1.v2 _ _ hb) _ (h1.f2 _ _ _ ha))
   ·exact h1.c _ ha _ hb rfl (by simp only;rw[p1,q1])
theorem qAs {t:List Nod} (hs:qQQ t):(∃ F,VT t F/\qIX t=some ((F.srt.getD 0 0,()),())/\1<=F.srt.getD 0 0)\/((¬ ∃ F,VT t F)/\qIX t=some ((0,()),())):=by
 unfold qIX
 by_cases hl:t.length > 20000
 ·rw[qIA (by omega)]
  refine .inr ⟨fun ⟨F,hF⟩=>?_,rfl⟩
  have:=hF.size
  have h2:=qVD F
  rw[hF.flat] at h2
  omega
 rw[qOA (by omega)]
 obtain ⟨f,hf1,hf2⟩:=qBac
 have htr:=qYad hs (by omega) f 0 (by omega) (by omega) 0
 rw[show ((0:Nat):Int)=0 from rfl,List.drop_zero] at htr
 rw[hf1,htr,qAA]
 have hiff:∀ F,VT t F->one 257 t=some (F,[]):=by
  intro F hF
  have:=qXs (f:=F) (d:=257) [] hF.wf hF.len hF.dep
  rw[qY4,hF.flat] at this
  exact this
 unfold qSW
 rw[show 257 - 0=257 from rfl]
 cases ho:one 257 t with
 |none=>
  simp only
  rw[qVE (show (-1:Int)≠(t.length:Int) by omega)]
  exact .inr ⟨fun ⟨F,hF⟩=>(by rw[hiff F hF] at ho;cases ho),rfl⟩
 |some x=>
  obtain ⟨F,l'⟩:=x
  obtain ⟨o1,o2,o3,o4⟩:=qVX 257 ho
  simp only
  by_cases hl':l'=[]
  ·subst hl'
   rw[qY4] at o1
   rw[qRE (show (t.length:Int) - (([]:List Nod).length:Int)=(t.length:Int) by simp)]
   obtain ⟨x,hx⟩:∃ x,F.srt=[x]:=by
    have:=qEM F
    rw[o3] at this
    match h:F.srt,this with
    |[x],_=>exact ⟨x,rfl⟩
   have hg:F.srt.getD 0 0=x:=by rw[hx];rfl
   have hz:F.size<=20000:=by rw[<-qVD,<-o1];omega
   by_cases h0:F.srt.getD 0 0=0
   ·rw[qHA h0]
    refine .inr ⟨fun ⟨G,hG⟩=>?_,rfl⟩
    have:=hiff G hG
    rw[ho] at this
    cases this
    exact hG.srt (by rw[hx,<-hg,h0];simp)
   rw[qDA h0]
   have hn:(0:Int)∉F.srt:=by rw[hx];simp;rw[hg] at h0;exact fun e=>h0 e.symm
   obtain ⟨b,b1,b2⟩:=qTm hs o1.symm o2 hn hz o4
   rw[b1,qAA]
   cases b with
   |true=>
    refine .inl ⟨F,⟨o1.symm,o2,hn,o3,hz,o4,b2.1 rfl⟩,rfl,?_⟩
    have:=qKo F o2 x (by rw[hx];simp)
    omega
   |false=>
    refine .inr ⟨fun ⟨G,hG⟩=>?_,rfl⟩
    have:=hiff G hG
    rw[ho] at this
    cases this
    have:=b2.2 hG.cns
    cases this
  ·have hpos:0 < l'.length:=List.length_pos_iff.2 hl'
   rw[qVE (by omega)]
   refine .inr ⟨fun ⟨G,hG⟩=>?_,rfl⟩
   have:=hiff G hG
   rw[ho] at this
   cases this
   exact hl' rfl
theorem qQh {t:List Nod} (hs:qQQ t):∃ b,qKR t=some ((b,()),())/\(b=true ↔ ∃ F,VT t F):=by
 unfold qKR
 rcases qAs hs with ⟨F,h1,h2,h3⟩ | ⟨h1,h2⟩
 ·rw[h2,qAA]
  exact ⟨_,rfl,fun _=>⟨F,h1⟩,fun _=>qZ10 (show F.srt.getD 0 0 > 0 by omega)⟩
 ·rw[h2,qAA]
  exact ⟨_,rfl,fun h=>(by cases h),fun h=>absurd h h1⟩
end Go.AM.Num
end
section
namespace Go.AM.Num
open Tf
theorem qLaf {A:qBs->Option SV} {G:Nod->List SV->Int ⊕ SV} (n:Nod) (k r:Tf):evF A G (cons n k r)=match evF A G (cons n k nil) with
 |.inl e=>.inl e
 |.inr us=>match evF A G r with
  |.inl e=>.inl e
  |.inr ws=>.inr (us++ws):=by
 simp only[evF]
 cases evF A G k with
 |inl e=>rfl
 |inr vs=>
  simp only
  cases evN A G n vs with
  |inl e=>rfl
  |inr v=>
   simp only
   cases evF A G r<;>rfl
end Go.AM.Num
end
section
namespace Go.AM.Num
open Tf
theorem qFad (kids:List (List Nod)) (hl:kids.length<=1000):∀ (m i:Nat) (t:List Nod),i+m=kids.length->t.length+(kids.drop i).flatten.length<=100000->
 qPA qKT (kids,t,(i:Int),())=some (.exit 0,(kids,t++(kids.drop i).flatten,(kids.length:Int),())):=by
 intro m
 induction m with
 |zero=>
  intro i t hi _
  have e:kids.drop i=[]:=qY7 (by omega)
  rw[e]
  refine qWA ?_ (by simp)
  unfold qKT
  simp only
  have:i=kids.length:=by omega
  rw[qOA (by omega),this]
  simp
 |succ m ih=>
  intro i t hi hb
  have hil:i < kids.length:=by omega
  have hd:=qY6 hil
  have hg:kids.getD i []=kids[i]:=by simp[qZ4,hil]
  rw[hd] at hb ⊢
  simp only[List.flatten_cons,qZ6] at hb
  rw[qAB (y:=(kids,t++kids[i],((i+1:Nat):Int),())) (by
   unfold qKT
   simp only
   rw[qIA (by omega),qEA,qBA (by omega),qBA (by omega),qZ0,hg,qBA (by simp only[qWE];omega),w64 (by omega)]
   rfl)]
  rw[ih (i+1) _ (by omega) (by simp only[qZ6];omega)]
  simp only[List.flatten_cons,qZ1]
theorem qRd {n:Nod} {kids:List (List Nod)} (hl:kids.length<=1000) (hb:kids.flatten.length<=90000):qTO n kids=some (((n.1,n.2.1,n.2.2.1,n.2.2.2.1,(kids.length:Int))::kids.flatten,()),()):=by
 unfold qTO
 have:=qFad kids hl kids.length 0 [(n.1,n.2.1,n.2.2.1,n.2.2.2.1,(kids.length:Int))] (by omega) (by simp only[List.drop_zero,qY11,List.length_nil];omega)
 rw[show ((0:Nat):Int)=0 from rfl] at this
 rw[this]
 simp only[qAA,qCC,qRA,List.drop_zero]
 rfl
theorem qLP.len {VS:List Vr} {ss:List Int} {N d:Nat} {l:List Nod} (h:qLP VS ss N d l):l.length<=N:=by
 obtain ⟨K,hK⟩:=h
 rw[<-hK.flat,qVD];exact hK.size
theorem qLP.sub {VS:List Vr} {ss:List Int} {N d:Nat} {l:List Nod} (h:qLP [] ss N d l):qLP VS ss N d l:=by
 obtain ⟨K,hK⟩:=h
 exact ⟨K,hK.flat,hK.wf,hK.srt,hK.nz,hK.sh,hK.size,hK.dep,fun x hx h4=>absurd (hK.vars x hx h4) qY16,hK.noap⟩
theorem qIY {o k:Int} (h:1<=o/\o<=20) (h':o≠3/\o≠4/\o≠5/\o≠16/\o≠17):qRC ((o,0,[],[],k):Nod)=true:=by
 unfold qRC
 simp only[nOp,qJG,qSP,qSS]
 rw[if_neg (by omega),if_neg (by omega),if_neg (by omega),qZ10 h]
 rfl
theorem qHU {VS:List Vr} {ss:List Int} {N d:Nat} {kids:List (List Nod)} {o s:Int} (hK:qLP VS ss N d kids.flatten) (hl:kids.length=ss.length) (h1000:kids.length<=1000) (hN:N<=50000) (h:1<=o/\o<=20) (h':o≠3/\o≠4/\o≠5/\o≠16/\o≠17)
 (hc:qHB o ss.length=true) (hs:qXC ((o,0,[],[],(ss.length:Int)):Nod) (kids.flatten.getD 0 qQE).1 ss=s) (hz:s≠0):∃ t,qMc o kids=some ((t,()),())/\qLP VS [s] (N+1) (d+1) t:=by
 refine ⟨(o,0,[],[],(kids.length:Int))::kids.flatten,?_,?_⟩
 ·unfold qMc
  rw[qRd h1000 (by have:=hK.len;omega),qAA]
 ·rw[hl]
  exact hK.node (qIY h h') hc rfl hs hz (by simp[qSS]) (fun e=>absurd e h'.2.1) h'.2.2.1
theorem qHal {d:Int} {P:KV} (hP:P.length<=100) (hs:∀ p∈P,(ti p.1).length<=73/\(ti p.2).length<=73):∀ (m i:Nat) (t:List Nod),i+m=P.length->qLP [] [4] (2+3 * i) (2+i) t->
 ∃ t',qPA qUG (qUH d P,([]:List Nod),0,t,(i:Int),())=some (.exit 1,(qUH d P,([]:List Nod),0,t',(P.length:Int),()))/\qLP [] [4] (2+3 * P.length) (2+P.length) t':=by
 intro m
 induction m with
 |zero=>
  intro i t hi hg
  have:i=P.length:=by omega
  refine ⟨t,qWA ?_ (by simp),by rw[<-this];exact hg⟩
  unfold qUG
  simp only
  rw[qOA (by rw[qLF];omega),this]
 |succ m ih=>
  intro i t hi hg
  have hil:i < P.length:=by omega
  have hp:=hs _ (List.getElem_mem hil)
  have hlen:=hg.len
  have hk:=((hg.app ((qPd hp.1).mono (Nat.le_refl _) (show 1<=2+i by omega))).app ((qPd hp.2).mono (Nat.le_refl _) (show 1<=2+i by omega)))
  have hfl:[t,[((3:Int),(2:Int),([]:qBs),ti P[i].1,(0:Int))],[((3:Int),(2:Int),([]:qBs),ti P[i].2,(0:Int))]].flatten=t++[((3:Int),(2:Int),([]:qBs),ti P[i].1,(0:Int))]++[((3:Int),(2:Int),([]:qBs),ti P[i].2,(0:Int))]:=by simp
  have hj:=qRd (n:=((19:Int),(0:Int),([]:qBs),([]:qBs),(0:Int))) (kids:=[t,[((3:Int),(2:Int),([]:qBs),ti P[i].1,(0:Int))],[((3:Int),(2:Int),([]:qBs),ti P[i].2,(0:Int))]]) (by simp) (by simp;omega)
  rw[hfl] at hj
  have hn:=hk.node (n:=((19:Int),(0:Int),([]:qBs),([]:qBs),(3:Int))) (s:=4) (qIY (by omega) (by omega)) rfl rfl (by simp[qXC,nOp]) (by omega) (by simp[qSS]) (fun e=>by simp[nOp] at e) (by simp[nOp])
  obtain ⟨t',h1,h2⟩:=ih (i+1) _ (by omega) (hn.mono (show 2+3 * i+1+1+1<=2+3 * (i+1) by omega) (show 2+i+1<=2+(i+1) by omega))
  refine ⟨t',?_,h2⟩
  rw[qAB (y:=(qUH d P,([]:List Nod),0,_,((i+1:Nat):Int),())) (by
   unfold qUG
   simp only
   rw[qIA (by rw[qLF];omega),qOA (by omega),qEA,qBA (by omega),qBA (by rw[qLF];omega),qZ0,qSV hil,qSb hil]
   unfold qVN
   rw[qAA,qEA,qBA (by omega),qBA (by rw[qNK];omega),qAA]
   simp only
   rw[hj,qAA,w64 (by omega)]
   rfl)]
  exact h1
def qFam (v:SV):Prop:=okS v/\match v with
 |.b _=>True
 |.z n=>(ti n).length<=73
 |.q r=>(txt r).length<=73
 |.a d P=>(ti d).length<=73/\(∀ p∈P,(ti p.1).length<=73/\(ti p.2).length<=73)/\P.length<=100
def qLW:SV->Nat
 |.a _ P=>P.length
 |_=>0
theorem qBad {v:SV} (h:qFam v):Short 73 (encS v):=by
 obtain ⟨h1,h2⟩:=h
 cases v with
 |b x=>exact ⟨by simp[encS],fun s hs=>by simp[encS] at hs,fun s hs=>by simp[encS] at hs,by simp[encS]⟩
 |z n=>exact ⟨h2,fun s hs=>by simp[encS] at hs,fun s hs=>by simp[encS] at hs,by simp[encS]⟩
 |q r=>exact ⟨h2,fun s hs=>by simp[encS] at hs,fun s hs=>by simp[encS] at hs,by simp[encS]⟩
 |a d P=>
  obtain ⟨a1,a2,a3⟩:=h2
  exact (Sm.short (N:=73) ⟨a1,a2,by omega⟩)
theorem qRg {v:SV} (h:qFam v):∃ t,qGI (encS v)=some ((t,0,()),())/\qLP [] [qCH v] (2+3 * qLW v) (2+qLW v) t:=by
 have hsh:=qBad h
 obtain ⟨h1,h2⟩:=h
 have hval:=qTe (N:=73) (by omega) hsh
 rw[qUd h1] at hval
 unfold qGI
 rw[hval,qAA]
 simp only[qY2,qVA]
 cases v with
 |b x=>
  cases x
  ·exact ⟨_,rfl,qUn.mono (by simp[qLW]) (by simp[qLW])⟩
  ·exact ⟨_,rfl,qTs.mono (by simp[qLW]) (by simp[qLW])⟩
 |z n=>exact ⟨_,rfl,(qPd h2).mono (by simp[qLW]) (by simp[qLW])⟩
 |q r=>exact ⟨_,rfl,(qJaa h2).mono (by simp[qLW]) (by simp[qLW])⟩
 |a d P=>
  obtain ⟨a1,a2,a3⟩:=h2
  have hk:=(qPd (VS:=[]) a1).node (n:=((20:Int),(0:Int),([]:qBs),([]:qBs),(1:Int))) (s:=4) (qIY (by omega) (by omega)) rfl rfl (by simp[qXC,nOp]) (by omega) (by simp[qSS]) (fun e=>by simp[nOp] at e) (by simp[nOp])
  obtain ⟨t',e1,e2⟩:=qHal (d:=d) a3 a2 P.length 0 _ (by omega) (hk.mono (by omega) (by omega))
  obtain ⟨F,hF⟩:=e2
  have hvt:=qSak ⟨fun v h=>absurd h qY16,fun v h=>absurd h qY16⟩ hF (by omega) (by omega)
  obtain ⟨b,b1,b2⟩:=qQh (t:=t') fun n hn=>by have:=hF.sh n hn;omega
  have hb:b=true:=b2.2 ⟨F,hvt⟩
  have e:encS (.a d P)=qUH d P:=rfl
  rw[e]
  simp only
  rw[qDA (by omega),qDA (by omega),qDA (by omega)]
  unfold qVN
  simp only[qAA]
  have hj:=qRd (n:=((20:Int),(0:Int),([]:qBs),([]:qBs),(0:Int))) (kids:=[[((3:Int),(2:Int),([]:qBs),ti d,(0:Int))]]) (by simp) (by simp)
  rw[hj,qAA]
  rw[show ((0:Nat):Int)=0 from rfl] at e1
  have e1':qPA qUG (qUH d P,([]:List Nod),0,(((20:Int),(0:Int),([]:qBs),([]:qBs),(([[((3:Int),(2:Int),([]:qBs),ti d,(0:Int))]].length:Nat):Int)):Nod)::[[((3:Int),(2:Int),([]:qBs),ti d,(0:Int))]].flatten,0,())=some (.exit 1,(qUH d P,([]:List Nod),0,t',(P.length:Int),())):=e1
  rw[e1']
  simp only[qAA,qCC,qRA]
  rw[b1,qAA,hb]
  exact ⟨t',rfl,⟨F,hF⟩⟩
theorem qRv {c:List Int×Int} (hc:CI c) {s:Int} (hs:1<=s/\s<=4):∃ v c',qTE c s=some ((encS v,()),(c',()))/\CI c'/\qCH v=s/\qFam v/\qLW v<=1:=by
 have hf:∀ r:Int,-10<=r/\r<=10->qEG r=some ((ti r,()),())/\(ti r).length<=73:=fun r h=>by
  refine ⟨qNI ⟨by omega,by omega⟩,?_⟩
  have:=qQF (r:Rat)
  have:=qRW (n:=r) (by omega)
  unfold ti;omega
 unfold qTE
 by_cases h1:s=1
 ·obtain ⟨r,c',n1,n2,n3,n4⟩:=qWB hc (n:=2) (by omega)
  rw[qHA h1,n1,qAA,h1]
  exact ⟨.b (r==1),c',rfl,n2,rfl,⟨trivial,trivial⟩,by simp[qLW]⟩
 rw[qDA h1]
 by_cases h4:s=4
 ·obtain ⟨r1,c1,a1,a2,a3,a4⟩:=qWB hc (n:=3) (by omega)
  obtain ⟨r2,c2,b1,b2,b3,b4⟩:=qWB a2 (n:=3) (by omega)
  obtain ⟨r3,c3,d1,d2,d3,d4⟩:=qWB b2 (n:=3) (by omega)
  rw[qHA h4,a1,qAA,(hf r1 (by omega)).1,qAA,b1,qAA,(hf r2 (by omega)).1,qAA,d1,qAA,(hf r3 (by omega)).1,qAA,h4]
  have hst:=qJn (N:=73) (by omega) (d:=r1) (i:=r2) (n:=r3) (qLY r1) (qDz (hf r1 (by omega)).2) (hf r2 (by omega)).2 (hf r3 (by omega)).2
  have e:(qUH r1 []:Val)=((4:Int),false,ti r1,([]:List qBs),([]:List qBs)):=rfl
  rw[e] at hst
  simp only
  rw[hst,qAA]
  have hlen:=qFp (d:=r1) (i:=r2) (n:=r3) (P:=[]) List.Pairwise.nil
  have hsm:=qUak (N:=73) (d:=r1) (i:=r2) (n:=r3) (P:=[]) List.Pairwise.nil (qDz (hf r1 (by omega)).2) (hf r2 (by omega)).2 (hf r3 (by omega)).2 (by simp)
  refine ⟨.a r1 (stP r1 [] r2 r3),c3,rfl,d2,rfl,⟨qVe (qLY r1) r2 r3,hsm.num,hsm.els,?_⟩,?_⟩
  ·simp at hlen;omega
  ·simpa [qLW] using hlen
 ·rw[qDA h4]
  obtain ⟨r,c',n1,n2,n3,n4⟩:=qWB hc (n:=6) (by omega)
  rw[n1,qAA]
  simp only
  rw[w64 (by omega),(hf (r - 2) (by omega)).1,qAA]
  by_cases h2:s=2
  ·rw[h2]
   exact ⟨.z (r - 2),c',rfl,n2,rfl,⟨trivial,(hf (r - 2) (by omega)).2⟩,by simp[qLW]⟩
  ·have h3:s=3:=by omega
   rw[h3]
   exact ⟨.q ((r - 2:Int):Rat),c',rfl,n2,rfl,⟨trivial,(hf (r - 2) (by omega)).2⟩,by simp[qLW]⟩
def qLL (VS:List Vr) (c:List Int×Int) (s:Int) (N d:Nat) (r:Option (((List Nod)×Unit)×(qCA×Unit))):Prop:=∃ t c',r=some ((t,()),(c',()))/\CI c'/\qLP VS [s] N d t
theorem qJt {VS:List Vr} {c:List Int×Int} (hc:CI c) {s:Int} (hs:1<=s/\s<=4):qLL VS c s 5 3 ((qTE c s).bind fun r2=>(qGI r2.1.1).bind fun r3=>some ((r3.1.1,()),r2.2.1,())):=by
 obtain ⟨v,c',h1,h2,h3,h4,h5⟩:=qRv hc hs
 obtain ⟨t,t1,t2⟩:=qRg h4
 rw[h1,qAA,t1,qAA]
 rw[h3] at t2
 exact ⟨t,c',rfl,h2,(t2.mono (by omega) (by omega)).sub⟩
theorem qJah {c:List Int×Int} {VS:List Vr} {s:Int} (hl:VS.length<=1000):∀ (m i:Nat) (l:List Vr),i+m=VS.length->l.length<=i->
 qPA qGD (c,s,VS,l,(i:Int),())=some (.exit 0,(c,s,VS,l++(VS.drop i).filter (fun v=>decide (v.2=s)),(VS.length:Int),())):=by
 intro m
 induction m with
 |zero=>
  intro i l hi _
  have e:VS.drop i=[]:=qY7 (by omega)
  rw[e]
  refine qWA ?_ (by simp)
  unfold qGD
  simp only
  have:i=VS.length:=by omega
  rw[qOA (by omega),this]
  simp
 |succ m ih=>
  intro i l hi hb
  have hil:i < VS.length:=by omega
  have hd:=qY6 hil
  have hg:VS.getD i zVr=VS[i]:=by simp[qZ4,hil]
  rw[hd]
  generalize VS[i]=v at hg hd
  by_cases h:v.2=s
  ·rw[qAB (y:=(c,s,VS,l++[v],((i+1:Nat):Int),())) (by
    unfold qGD
    simp only
    rw[qIA (by omega),qEA,qBA (by omega),qBA (by omega),qZ0,hg,qHA h,qEA,qBA (by omega),qBA (by omega),qBA (by simp[qWE];omega),w64 (by omega)]
    rfl)]
   rw[ih (i+1) _ (by omega) (by simp;omega),List.filter_cons,if_pos (qZ10 h)]
   simp
  ·rw[qAB (y:=(c,s,VS,l,((i+1:Nat):Int),())) (by
    unfold qGD
    simp only
    rw[qIA (by omega),qEA,qBA (by omega),qBA (by omega),qZ0,hg,qDA h,w64 (by omega)]
    rfl)]
   rw[ih (i+1) _ (by omega) (by omega),List.filter_cons,if_neg (fun e=>h (of_decide_eq_true e))]
theorem qXN {VS:List Vr} (hV:VSok VS) (hl:VS.length<=1000) {c:List Int×Int} (hc:CI c) {s:Int} (hs:1<=s/\s<=4):qLL VS c s 5 3 (qCB c s VS):=by
 unfold qCB
 have key:=qJah (c:=c) (s:=s) hl VS.length 0 [] (by omega) (by simp)
 rw[show ((0:Nat):Int)=0 from rfl] at key
 rw[key]
 simp only[qAA,qCC,qRA,qY15,List.drop_zero]
 have hmem:∀ v∈VS.filter (fun v=>decide (v.2=s)),v∈VS/\v.2=s:=fun v hv=>by simpa using hv
 have hfl:(VS.filter (fun v=>decide (v.2=s))).length<=VS.length:=List.length_filter_le _ _
 generalize VS.filter (fun v=>decide (v.2=s))=L at hmem hfl
 by_cases h0:L.length=0
 ·rw[qHA (by omega)]
  exact qJt hc hs
 ·rw[qDA (by omega)]
  obtain ⟨r,c',n1,n2,n3,n4⟩:=qWB hc (n:=(L.length:Int)) (by omega)
  obtain ⟨k,rfl⟩:∃ k:Nat,r=k:=⟨r.toNat,by omega⟩
  have hk:k < L.length:=by omega
  have hg:L.getD k zVr=L[k]:=by simp[qZ4,hk]
  rw[n1,qAA,qEA,qBA (by omega),qBA (by omega)]
  simp only[qZ0]
  rw[qBA hk,hg]
  obtain ⟨m1,m2⟩:=hmem _ (List.getElem_mem hk)
  have hm:(L[k].1,s)∈VS:=by rw[<-m2];exact m1
  exact ⟨_,c',rfl,n2,(qVan hV hm).mono (by omega) (by omega)⟩
end Go.AM.Num
end
section
namespace Go.AM.Num
open Tf
abbrev TmF:=qCA->Int->Int->List Vr->Option (((List Nod)×Unit)×(qCA×Unit))
abbrev FmF:=qCA->Int->List Vr->Option (((List Nod)×Unit)×(qCA×Unit))
def TOk (VS:List Vr) (T:TmF) (d N D:Nat):Prop:=∀ c s,CI c->1<=s/\s<=4->qLL VS c s N D (T c s (d:Int) VS)
def AOk (VS:List Vr) (T:TmF) (d N D:Nat):Prop:=∀ c s,CI c->s=2\/s=3->qLL VS c s N D (T c s (d:Int) VS)
def FOk (VS:List Vr) (F:FmF) (d N D:Nat):Prop:=∀ c,CI c->qLL VS c 1 N D (F c (d:Int) VS)
theorem qLL.mono {VS:List Vr} {c:List Int×Int} {s:Int} {N d M e:Nat} {r:Option (((List Nod)×Unit)×(qCA×Unit))} (h:qLL VS c s N d r) (hN:N<=M) (hd:d<=e):qLL VS c s M e r:=by
 obtain ⟨t,c',h1,h2,h3⟩:=h
 exact ⟨t,c',h1,h2,h3.mono hN hd⟩
theorem qLL.eta {VS:List Vr} {c:List Int×Int} {s:Int} {N d:Nat} {r:Option (((List Nod)×Unit)×(qCA×Unit))} (h:qLL VS c s N d r):qLL VS c s N d (r.bind fun r2=>some ((r2.1.1,()),r2.2.1,())):=by
 obtain ⟨t,c',h1,h2,h3⟩:=h
 rw[h1]
 exact ⟨t,c',rfl,h2,h3⟩
section
variable {VS:List Vr} (T:TmF) (F:FmF) (I:TmF) (Ar:TmF) (At:FmF)
theorem qXK (a:List Nod):[a].flatten=a:=by simp
theorem qXL (a b:List Nod):[a,b].flatten=a++b:=by simp
theorem qJar (a b c:List Nod):[a,b,c].flatten=a++b++c:=by simp
theorem qXac {c:List Int×Int} (hc:CI c) {s:Int} (hs:1<=s/\s<=4) (hV:VSok VS) (hl:VS.length<=1000):qLL VS c s 5 3 ((qFA c 3).bind fun r1=>
 cond (r1.1.1==(0:Int))
  ((qTE r1.2.1 s).bind fun r2=>
  (qGI r2.1.1).bind fun r3=>
  some ((r3.1.1,()),r2.2.1,()))
  ((qCB r1.2.1 s VS).bind fun r4=>
  some ((r4.1.1,()),r4.2.1,()))):=by
 obtain ⟨r,c',n1,n2,n3,n4⟩:=qWB hc (n:=3) (by omega)
 rw[n1,qAA]
 by_cases h:r=0
 ·rw[qHA h];exact qJt n2 hs
 ·rw[qDA h];exact (qXN hV hl n2 hs).eta
theorem T0 (hV:VSok VS) (hl:VS.length<=1000):TOk VS (qSF T F I Ar At) 0 5 3:=by
 intro c s hc hs
 unfold qSF
 rw[qIA (by omega)]
 exact qXac hc hs hV hl
theorem qEae (hV:VSok VS) (hl:VS.length<=1000) {d N D:Nat} (hN:N<=10000) (hT:TOk VS T d N D):FOk VS (qUJ T F I Ar At) d (max 5 (1+2 * N)) (max 3 (D+1)):=by
 intro c hc
 unfold qUJ
 obtain ⟨r,c1,n1,n2,n3,n4⟩:=qWB hc (n:=5) (by omega)
 rw[n1,qAA,qEA,qBA (by simpa using n3),qBA (by simp;omega)]
 have hr:r=0\/r=1\/r=2\/r=3\/r=4:=by omega
 have hg:∃ s:Int,([2,2,3,4,1]:List Int).getD r.toNat 0=s/\1<=s/\s<=4:=by
  rcases hr with rfl | rfl | rfl | rfl | rfl
  ·exact ⟨2,rfl,by omega,by omega⟩
  ·exact ⟨2,rfl,by omega,by omega⟩
  ·exact ⟨3,rfl,by omega,by omega⟩
  ·exact ⟨4,rfl,by omega,by omega⟩
  ·exact ⟨1,rfl,by omega,by omega⟩
 obtain ⟨s,hgs,hs⟩:=hg
 simp only
 rw[hgs]
 by_cases h1:s=1
 ·rw[qHA h1]
  obtain ⟨r2,c2,m1,m2,m3,m4⟩:=qWB n2 (n:=3) (by omega)
  rw[m1,qAA]
  by_cases h0:r2=0
  ·rw[qHA h0]
   obtain ⟨r3,c3,k1,k2,k3,k4⟩:=qWB m2 (n:=2) (by omega)
   simp only
   rw[k1,qAA]
   simp only
   unfold qWj
   cases (r3==1)
   ·exact ⟨_,c3,rfl,k2,qUn.mono (by omega) (by omega)⟩
   ·exact ⟨_,c3,rfl,k2,qTs.mono (by omega) (by omega)⟩
  ·rw[qDA h0,h1]
   exact ((qXN hV hl m2 (by omega)).eta).mono (by omega) (by omega)
 rw[qDA h1]
 by_cases h4:s=4
 ·rw[qRE h4]
  obtain ⟨t1,c2,a1,a2,a3⟩:=hT _ s n2 hs
  obtain ⟨t2,c3,b1,b2,b3⟩:=hT _ s a2 hs
  rw[a1,qAA,b1,qAA]
  obtain ⟨t,o1,o2⟩:=qHU (o:=11) (s:=1) (kids:=[t1,t2]) (by rw[qXL];exact a3.app b3) rfl (by simp) (by omega) (by omega) (by omega) rfl (by simp[qXC,nOp]) (by omega)
  rw[o1,qAA]
  exact ⟨t,c3,rfl,b2,o2.mono (by omega) (by omega)⟩
 ·rw[qVE h4]
  obtain ⟨r2,c2,m1,m2,m3,m4⟩:=qWB n2 (n:=3) (by omega)
  obtain ⟨t1,c3,a1,a2,a3⟩:=hT _ s m2 hs
  obtain ⟨t2,c4,b1,b2,b3⟩:=hT _ s a2 hs
  rw[m1,qAA,a1,qAA,b1,qAA]
  simp only
  rw[w64 (by omega)]
  have hs':s=2\/s=3:=by omega
  have hsm:qXC (((11:Int)+r2,0,[],[],(([s]++[s]:List Int).length:Int)):Nod) ((t1++t2).getD 0 qQE).1 ([s]++[s])=1:=by
   have:r2=0\/r2=1\/r2=2:=by omega
   rcases this with rfl | rfl | rfl
   ·simp[qXC,nOp]
   ·simp[qXC,nOp,hs']
   ·simp[qXC,nOp,hs']
  have hcc:qHB ((11:Int)+r2) ([s]++[s]:List Int).length=true:=by
   have:r2=0\/r2=1\/r2=2:=by omega
   rcases this with rfl | rfl | rfl<;>rfl
  obtain ⟨t,o1,o2⟩:=qHU (o:=(11:Int)+r2) (s:=1) (kids:=[t1,t2]) (ss:=[s]++[s]) (by rw[qXL];exact a3.app b3) rfl (by simp) (by omega) (by omega) (by omega) hcc (by rw[qXL];exact hsm) (by omega)
  rw[o1,qAA]
  exact ⟨t,c4,rfl,b2,o2.mono (by omega) (by omega)⟩
theorem qGaq {d N D:Nat} (hd:d<=1000) (hN:N<=10000) (hT:TOk VS T d N D) (hF:FOk VS F d N D):TOk VS (qHL T F I Ar At) (d+1) (1+3 * N) (D+1):=by
 intro c s hc hs
 unfold qHL
 have hw:qI (((d+1:Nat):Int) - 1)=(d:Int):=by rw[w64 (by omega)];omega
 obtain ⟨t1,c1,a1,a2,a3⟩:=hF _ hc
 obtain ⟨t2,c2,b1,b2,b3⟩:=hT _ s a2 hs
 obtain ⟨t3,c3,e1,e2,e3⟩:=hT _ s b2 hs
 rw[hw,a1,qAA,b1,qAA,e1,qAA]
 obtain ⟨t,o1,o2⟩:=qHU (o:=10) (s:=s) (kids:=[t1,t2,t3]) (ss:=[1]++[s]++[s]) (by rw[qJar];exact (a3.app b3).app e3) rfl (by simp) (by omega) (by omega) (by omega) rfl (by simp[qXC,nOp]) (by omega)
 rw[o1,qAA]
 exact ⟨t,c3,rfl,e2,o2.mono (by omega) (by omega)⟩
theorem qOk (n:Nat) (s:Int):List.replicate n s++[s]=List.replicate (n+1) s:=by rw[List.replicate_succ']
theorem qRaj {d N D:Nat} (hd:d<=1000) (hN:N<=10000) (hT:TOk VS T d N D) {s:Int} (hs:1<=s/\s<=4):∀ (m k:Nat) (c:List Int×Int) (l:List (List Nod)),CI c->k+m<=5->l.length=k->qLP VS (List.replicate k s) (k * N) D l.flatten->
 ∃ c' l',qPA (qAE T F I Ar At) (c,s,((d+1:Nat):Int),VS,l,(m:Int),())=some (.exit 1,(c',s,((d+1:Nat):Int),VS,l',0,()))/\CI c'/\l'.length=k+m/\qLP VS (List.replicate (k+m) s) ((k+m) * N) D l'.flatten:=by
 have hw:qI (((d+1:Nat):Int) - 1)=(d:Int):=by rw[w64 (by omega)];omega
 intro m
 induction m with
 |zero=>
  intro k c l hc _ hlk hg
  exact ⟨c,l,qWA (by unfold qAE;simp only;rw[qOA (by omega)];rfl) (by simp),hc,hlk,hg⟩
 |succ m ih=>
  intro k c l hc hb hlk hg
  obtain ⟨t1,c1,a1,a2,a3⟩:=hT _ s hc hs
  have hg':qLP VS (List.replicate (k+1) s) ((k+1) * N) D (l++[t1]).flatten:=by
   have:=hg.app a3
   rw[qOk] at this
   rw[List.flatten_append,qXK,Nat.add_mul,Nat.one_mul]
   exact this
  obtain ⟨c',l',e1,e2,e3,e4⟩:=ih (k+1) c1 (l++[t1]) a2 (by omega) (by simp[hlk]) hg'
  refine ⟨c',l',?_,e2,by omega,?_⟩
  ·rw[qAB (y:=(c1,s,((d+1:Nat):Int),VS,l++[t1],(m:Int),())) (by
    unfold qAE
    simp only
    rw[qIA (by omega),hw,a1,qAA,qBA (by simp[qWE];omega),w64 (by omega)]
    have e:((m+1:Nat):Int) - 1=(m:Int):=by omega
    rw[e])]
   exact e1
  ·have e:k+(m+1)=k+1+m:=by omega
   rw[e];exact e4
theorem qLag {d N D:Nat} (hd:d<=1000) (hN:N<=10000) (hF:FOk VS F d N D):∀ (m k:Nat) (c:List Int×Int) (l:List (List Nod)),CI c->k+m<=5->l.length=k->qLP VS (List.replicate k 1) (k * N) D l.flatten->
 ∃ c' l',qPA (qRB T F I Ar At) (c,((d+1:Nat):Int),VS,l,(m:Int),())=some (.exit 1,(c',((d+1:Nat):Int),VS,l',0,()))/\CI c'/\l'.length=k+m/\qLP VS (List.replicate (k+m) 1) ((k+m) * N) D l'.flatten:=by
 have hw:qI (((d+1:Nat):Int) - 1)=(d:Int):=by rw[w64 (by omega)];omega
 intro m
 induction m with
 |zero=>
  intro k c l hc _ hlk hg
  exact ⟨c,l,qWA (by unfold qRB;simp only;rw[qOA (by omega)];rfl) (by simp),hc,hlk,hg⟩
 |succ m ih=>
  intro k c l hc hb hlk hg
  obtain ⟨t1,c1,a1,a2,a3⟩:=hF _ hc
  have hg':qLP VS (List.replicate (k+1) 1) ((k+1) * N) D (l++[t1]).flatten:=by
   have:=hg.app a3
   rw[qOk] at this
   rw[List.flatten_append,qXK,Nat.add_mul,Nat.one_mul]
   exact this
  obtain ⟨c',l',e1,e2,e3,e4⟩:=ih (k+1) c1 (l++[t1]) a2 (by omega) (by simp[hlk]) hg'
  refine ⟨c',l',?_,e2,by omega,?_⟩
  ·rw[qAB (y:=(c1,((d+1:Nat):Int),VS,l++[t1],(m:Int),())) (by
    unfold qRB
    simp only
    rw[qIA (by omega),hw,a1,qAA,qBA (by simp[qWE];omega),w64 (by omega)]
    have e:((m+1:Nat):Int) - 1=(m:Int):=by omega
    rw[e])]
   exact e1
  ·have e:k+(m+1)=k+1+m:=by omega
   rw[e];exact e4
theorem qUaj {c:List Int×Int} (hc:CI c) {s:Int} (hs:s=2\/s=3):∃ a c',qWD c s=some ((a,()),(c',()))/\CI c'/\qVN s a=some (([((3:Int),s,([]:qBs),a,(0:Int))],()),())/\qLP VS [s] 1 1 [((3:Int),s,([]:qBs),a,(0:Int))]:=by
 unfold qWD
 rcases hs with rfl | rfl
 ·obtain ⟨z,c',h1,h2,h3⟩:=qWY hc
  rw[qHA rfl,h1,qAA]
  exact ⟨ti z,c',rfl,h2,rfl,qPd (by omega)⟩
 ·obtain ⟨q,c',h1,h2,h3⟩:=qLg hc
  have:=qQF q
  rw[qDA (by omega),h1,qAA]
  exact ⟨txt q,c',rfl,h2,rfl,qJaa (by omega)⟩
end
end Go.AM.Num
end
section
namespace Go.AM.Num
open Tf
section
variable {VS:List Vr} (T:TmF) (F:FmF) (I:TmF) (Ar:TmF) (At:FmF)
theorem qPaj {VS:List Vr} {N D:Nat} {t:List Nod} (h:qLP VS [2] N D t) {o r:Int} (ho:o=16\/o=17) (hr:0 < r/\r < 1000):qLP VS [2] (N+1) (D+1) ((o,0,[],ti r,1)::t):=by
 have hsg:qTa (ti r)=1:=by
  unfold qTa ti
  rw[qFN]
  simp only[Rat.num_intCast]
  exact Int.sign_eq_one_of_pos hr.1
 have hl:(ti r).length<=73:=by
  have:=qQF (r:Rat)
  have:=qRW (n:=r) (by omega)
  unfold ti;omega
 refine h.node (n:=(o,0,[],ti r,1)) ?_ ?_ rfl ?_ (by omega) hl (fun e=>?_) ?_
 ·unfold qRC
  simp only[nOp,qJG,qSP,qSS]
  rw[if_neg (by omega),if_neg (by omega),if_pos ho,qRb,hsg]
  rfl
 ·rcases ho with rfl | rfl<;>rfl
 ·rcases ho with rfl | rfl<;>simp[qXC,nOp]
 ·simp only[nOp] at e;omega
 ·simp only[nOp];omega
theorem qMah (hV:VSok VS) (hl:VS.length<=1000) {d N D:Nat} (hd:d<=1000) (hN:5<=N/\N<=10000) (hD:3<=D) (hT:TOk VS T d N D) (hI:TOk VS I (d+1) (1+3 * N) (D+1)):AOk VS (qOF T F I Ar At) (d+1) (1+3 * N) (D+1):=by
 intro c s hc hs
 have hs':1<=s/\s<=4:=by omega
 have hw:qI (((d+1:Nat):Int) - 1)=(d:Int):=by rw[w64 (by omega)];omega
 have hvar:∀ c,CI c->qLL VS c s (1+3 * N) (D+1) ((qCB c s VS).bind fun r=>some ((r.1.1,()),r.2.1,())):=fun c hc=>((qXN hV hl hc hs').eta).mono (by omega) (by omega)
 have hnum:∀ c,CI c->qLL VS c s (1+3 * N) (D+1) ((qWD c s).bind fun r=>(qVN s r.1.1).bind fun r'=>some ((r'.1.1,()),r.2.1,())):=fun c hc=>by
  obtain ⟨a,c',h1,h2,h3,h4⟩:=qUaj hc hs (VS:=VS)
  rw[h1,qAA,h3,qAA]
  exact ⟨_,c',rfl,h2,h4.mono (by omega) (by omega)⟩
 unfold qOF
 obtain ⟨r,c1,n1,n2,n3,n4⟩:=qWB hc (n:=10) (by omega)
 rw[n1,qAA]
 simp only[hw]
 by_cases h3:r < 3
 ·rw[qIA h3]
  obtain ⟨t1,c2,a1,a2,a3⟩:=hT _ s n2 hs'
  obtain ⟨r2,c3,m1,m2,m3,m4⟩:=qWB a2 (n:=3) (by omega)
  obtain ⟨m,rfl⟩:∃ m:Nat,r2=m:=⟨r2.toNat,by omega⟩
  obtain ⟨c4,l',e1,e2,e3,e4⟩:=qRaj T F I Ar At hd hN.2 hT hs' m 1 c3 [t1] m2 (by omega) rfl (by rw[qXK,Nat.one_mul];exact a3)
  rw[a1,qAA,m1,qAA]
  simp only
  rw[e1]
  simp only[qAA,qCC,qRA]
  have hb:(1+m) * N<=3 * N:=Nat.mul_le_mul_right N (by omega)
  obtain ⟨t,o1,o2⟩:=qHU (o:=14) (s:=s) (kids:=l') e4 (by rw[e3,List.length_replicate]) (by omega) (by omega) (by omega) (by omega) (by rw[List.length_replicate];exact qZ10 (show (1:Int)<=((1+m:Nat):Int) by omega)) (by
   have e:(List.replicate (1+m) s).getD 0 0=s:=by rw[Nat.add_comm];simp[List.replicate_succ]
   have hal:∀ x∈List.replicate (1+m) s,x=s:=fun x hx=>(List.mem_replicate.1 hx).2
   unfold qXC
   simp only[nOp]
   rw[if_neg (by omega),if_neg (by omega),if_neg (by omega),if_neg (by omega),if_neg (by omega),if_pos trivial,e,if_pos ⟨hs,hal⟩]) (by omega)
  rw[o1,qAA]
  exact ⟨t,c4,rfl,e2,o2.mono (by omega) (by omega)⟩
 rw[qOA h3]
 by_cases h5:r < 5
 ·rw[qIA h5]
  obtain ⟨a,c2,k1,k2,k3,k4⟩:=qUaj n2 hs (VS:=VS)
  obtain ⟨t1,c3,a1,a2,a3⟩:=hT _ s k2 hs'
  rw[k1,qAA,k3,qAA,a1,qAA]
  obtain ⟨t,o1,o2⟩:=qHU (o:=15) (s:=s) (kids:=[[((3:Int),s,([]:qBs),a,(0:Int))],t1]) (ss:=[s]++[s]) (by rw[qXL];exact (k4.mono (Nat.le_refl _) (show 1<=D by omega)).app a3) rfl (by simp) (by omega) (by omega) (by omega) rfl (by simp[qXC,nOp,hs]) (by omega)
  rw[o1,qAA]
  exact ⟨t,c3,rfl,a2,o2.mono (by omega) (by omega)⟩
 rw[qOA h5]
 by_cases h5':r=5
 ·rw[qHA h5']
  exact (hI _ s n2 hs').eta
 rw[qDA h5']
 by_cases h6:r=6
 ·rw[qHA h6]
  by_cases h2:s=2
  ·rw[qHA h2]
   obtain ⟨r2,c2,m1,m2,m3,m4⟩:=qWB n2 (n:=2) (by omega)
   obtain ⟨r3,c3,k1,k2,k3,k4⟩:=qWB m2 (n:=5) (by omega)
   obtain ⟨t1,c4,a1,a2,a3⟩:=hT _ s k2 hs'
   rw[m1,qAA]
   simp only
   rw[k1,qAA]
   simp only
   rw[w64 (x:=1+r3) (by omega),w64 (x:=16+r2) (by omega),qNI (show qCx (1+r3) from ⟨by omega,by omega⟩),qAA,a1,qAA]
   have hj:=qRd (n:=((16:Int)+r2,(0:Int),([]:qBs),txt ((1+r3:Int):Rat),(0:Int))) (kids:=[t1]) (by simp) (by rw[qXK];have:=a3.len;omega)
   rw[qXK] at hj
   simp only
   rw[hj,qAA]
   rw[h2] at a3 ⊢
   exact ⟨_,c4,rfl,a2,(qPaj a3 (o:=16+r2) (r:=1+r3) (by omega) (by omega)).mono (by omega) (by omega)⟩
  ·rw[qDA h2,qDA (by omega),qDA (by omega)]
   exact hvar _ n2
 rw[qDA h6]
 by_cases h7:r=7
 ·rw[qHA h7]
  by_cases h2:s=2
  ·rw[qHA h2]
   obtain ⟨t1,c2,a1,a2,a3⟩:=hT _ 4 n2 (by omega)
   obtain ⟨t2,c3,b1,b2,b3⟩:=hT _ s a2 hs'
   rw[a1,qAA,b1,qAA]
   rw[h2] at b3 ⊢
   obtain ⟨t,o1,o2⟩:=qHU (o:=18) (s:=2) (kids:=[t1,t2]) (ss:=[4]++[2]) (by rw[qXL];exact a3.app b3) rfl (by simp) (by omega) (by omega) (by omega) rfl (by simp[qXC,nOp]) (by omega)
   rw[o1,qAA]
   exact ⟨t,c3,rfl,b2,o2.mono (by omega) (by omega)⟩
  ·rw[qDA h2,qDA (by omega)]
   exact hvar _ n2
 rw[qDA h7]
 by_cases h8:r=8
 ·rw[qHA h8]
  exact hnum _ n2
 ·rw[qDA h8]
  exact hvar _ n2
theorem qYac (c:List Int×Int):qIM c=some ((decide (c.2 < (c.1.length:Int)),()),(c,())):=rfl
theorem qIao {d N D:Nat} (hd:d<=1000) (hN:5<=N/\N<=10000) (hD:3<=D) (hF:FOk VS F d N D) (hI:TOk VS I (d+1) (1+3 * N) (D+1)) (hA0:FOk VS At 0 11 4) (hA:FOk VS At d (1+3 * N) (D+1)):FOk VS (qKE T F I Ar At) (d+1) (1+3 * N) (D+1):=by
 intro c hc
 have hw:qI (((d+1:Nat):Int) - 1)=(d:Int):=by rw[w64 (by omega)];omega
 unfold qKE
 rw[qOA (by omega),qYac,qAA]
 by_cases hlf:¬ c.2 < (c.1.length:Int)
 ·rw[qZ9 hlf]
  simp only[qY1,qRA]
  exact ((hA0 _ hc).eta).mono (by omega) (by omega)
 rw[qZ10 (Decidable.not_not.1 hlf)]
 simp only[qY2,qVA]
 obtain ⟨r,c1,n1,n2,n3,n4⟩:=qWB hc (n:=12) (by omega)
 rw[n1,qAA]
 simp only[hw]
 have hnot:qLL VS c 1 (1+3 * N) (D+1) ((F c1 (d:Int) VS).bind fun r5=>(qMc 6 ([r5.1.1]:List (List Nod))).bind fun r6=>some ((r6.1.1,()),r5.2.1,())):=by
  obtain ⟨t1,c2,a1,a2,a3⟩:=hF _ n2
  rw[a1,qAA]
  obtain ⟨t,o1,o2⟩:=qHU (o:=6) (s:=1) (kids:=[t1]) (ss:=[1]) (by rw[qXK];exact a3) rfl (by simp) (by omega) (by omega) (by omega) rfl (by simp[qXC,nOp]) (by omega)
  rw[o1,qAA]
  exact ⟨t,c2,rfl,a2,o2.mono (by omega) (by omega)⟩
 have htwo:∀ o:Int,o=9\/o=11->qLL VS c 1 (1+3 * N) (D+1) ((F c1 (d:Int) VS).bind fun r5=>(F r5.2.1 (d:Int) VS).bind fun r6=>(qMc o ([r5.1.1,r6.1.1]:List (List Nod))).bind fun r7=>some ((r7.1.1,()),r6.2.1,())):=by
  intro o ho
  obtain ⟨t1,c2,a1,a2,a3⟩:=hF _ n2
  obtain ⟨t2,c3,b1,b2,b3⟩:=hF _ a2
  rw[a1,qAA,b1,qAA]
  obtain ⟨t,o1,o2⟩:=qHU (o:=o) (s:=1) (kids:=[t1,t2]) (ss:=[1]++[1]) (by rw[qXL];exact a3.app b3) rfl (by simp) (by omega) (by omega) (by omega) (by rcases ho with rfl | rfl<;>rfl) (by rcases ho with rfl | rfl<;>simp[qXC,nOp]) (by omega)
  rw[o1,qAA]
  exact ⟨t,c3,rfl,b2,o2.mono (by omega) (by omega)⟩
 have hand:qLL VS c 1 (1+3 * N) (D+1) ((qFA c1 4).bind fun r9=>(qPA (qRB T F I Ar At) (r9.2.1,((d+1:Nat):Int),VS,([]:List (List Nod)),r9.1.1,())).bind fun y10=>
  cond (Ex.same y10.1 (Ex.exit 1)) ((qFA y10.2.1 2).bind fun r11=>(qMc (qI ((7:Int)+r11.1.1)) y10.2.2.2.2.1).bind fun r12=>some ((r12.1.1,()),r11.2.1,())) none):=by
  obtain ⟨r2,c2,m1,m2,m3,m4⟩:=qWB n2 (n:=4) (by omega)
  obtain ⟨m,rfl⟩:∃ m:Nat,r2=m:=⟨r2.toNat,by omega⟩
  obtain ⟨c3,l',e1,e2,e3,e4⟩:=qLag T F I Ar At hd hN.2 hF m 0 c2 [] m2 (by omega) rfl (by rw[Nat.zero_mul];exact (qLP.nil VS).mono (Nat.le_refl _) (Nat.zero_le _))
  obtain ⟨r3,c4,k1,k2,k3,k4⟩:=qWB e2 (n:=2) (by omega)
  rw[m1,qAA]
  simp only
  rw[e1]
  simp only[qAA,qCC,qRA]
  rw[k1,qAA]
  simp only
  rw[w64 (by omega)]
  have hb:(0+m) * N<=3 * N:=Nat.mul_le_mul_right N (by omega)
  have hal:∀ x∈List.replicate (0+m) (1:Int),x=1:=fun x hx=>(List.mem_replicate.1 hx).2
  obtain ⟨t,o1,o2⟩:=qHU (o:=7+r3) (s:=1) (kids:=l') e4 (by rw[e3,List.length_replicate]) (by omega) (by omega) (by omega) (by omega) (by
   have:r3=0\/r3=1:=by omega
   rw[List.length_replicate]
   rcases this with rfl | rfl
   ·exact qZ10 (show (0:Int)<=((0+m:Nat):Int) by omega)
   ·exact qZ10 (show (0:Int)<=((0+m:Nat):Int) by omega)) (by
   unfold qXC
   simp only[nOp]
   rw[if_neg (by omega),if_pos (by omega),if_pos hal]) (by omega)
  rw[o1,qAA]
  exact ⟨t,c4,rfl,k2,o2.mono (by omega) (by omega)⟩
 by_cases h0:r=0;· rw[qHA h0];exact hnot
 rw[qDA h0]
 by_cases h1:r=1;· rw[qHA h1];exact hnot
 rw[qDA h1]
 by_cases h2:r=2;· rw[qHA h2];exact hand
 rw[qDA h2]
 by_cases h3:r=3;· rw[qHA h3];exact hand
 rw[qDA h3]
 by_cases h4:r=4;· rw[qHA h4];exact hand
 rw[qDA h4]
 by_cases h5:r=5;· rw[qHA h5];exact hand
 rw[qDA h5]
 by_cases h6:r=6;· rw[qHA h6];exact htwo 9 (.inl rfl)
 rw[qDA h6]
 by_cases h7:r=7;· rw[qHA h7];exact (hI _ 1 n2 (by omega)).eta
 rw[qDA h7]
 by_cases h8:r=8;· rw[qHA h8];exact htwo 11 (.inr rfl)
 rw[qDA h8]
 exact (hA _ n2).eta
theorem qWan (hV:VSok VS) (hl:VS.length<=1000) {d N D:Nat} (hd:d<=1000) (hN:5<=N/\N<=10000) (hD:3<=D) (hT:TOk VS T d N D) (hF:FOk VS F (d+1) (1+3 * N) (D+1)) (hI:TOk VS I (d+1) (1+3 * N) (D+1)) (hA:AOk VS Ar (d+1) (1+3 * N) (D+1)):TOk VS (qSF T F I Ar At) (d+1) (1+3 * N) (D+1):=by
 intro c s hc hs
 have hw:qI (((d+1:Nat):Int) - 1)=(d:Int):=by rw[w64 (by omega)];omega
 unfold qSF
 rw[qOA (by omega),qYac,qAA]
 by_cases hlf:¬ c.2 < (c.1.length:Int)
 ·rw[qZ9 hlf]
  simp only[qY1,qRA]
  exact (qXac hc hs hV hl).mono (by omega) (by omega)
 rw[qZ10 (Decidable.not_not.1 hlf)]
 simp only[qY2,qVA]
 by_cases h1:s=1
 ·rw[qHA h1,h1];exact (hF _ hc).eta
 rw[qDA h1]
 by_cases h4:s=4
 ·rw[qHA h4]
  obtain ⟨r,c1,n1,n2,n3,n4⟩:=qWB hc (n:=5) (by omega)
  rw[n1,qAA]
  simp only[hw]
  have hst:qLL VS c s (1+3 * N) (D+1) ((T c1 4 (d:Int) VS).bind fun r14=>(T r14.2.1 2 (d:Int) VS).bind fun r15=>(T r15.2.1 2 (d:Int) VS).bind fun r16=>(qMc 19 ([r14.1.1,r15.1.1,r16.1.1]:List (List Nod))).bind fun r17=>some ((r17.1.1,()),r16.2.1,())):=by
   obtain ⟨t1,c2,a1,a2,a3⟩:=hT _ 4 n2 (by omega)
   obtain ⟨t2,c3,b1,b2,b3⟩:=hT _ 2 a2 (by omega)
   obtain ⟨t3,c4,e1,e2,e3⟩:=hT _ 2 b2 (by omega)
   rw[a1,qAA,b1,qAA,e1,qAA,h4]
   obtain ⟨t,o1,o2⟩:=qHU (o:=19) (s:=4) (kids:=[t1,t2,t3]) (ss:=[4]++[2]++[2]) (by rw[qJar];exact (a3.app b3).app e3) rfl (by simp) (by omega) (by omega) (by omega) rfl (by simp[qXC,nOp]) (by omega)
   rw[o1,qAA]
   exact ⟨t,c4,rfl,e2,o2.mono (by omega) (by omega)⟩
  by_cases k0:r=0
  ·rw[qHA k0]
   obtain ⟨t1,c2,a1,a2,a3⟩:=hT _ 2 n2 (by omega)
   rw[a1,qAA,h4]
   obtain ⟨t,o1,o2⟩:=qHU (o:=20) (s:=4) (kids:=[t1]) (ss:=[2]) (by rw[qXK];exact a3) rfl (by simp) (by omega) (by omega) (by omega) rfl (by simp[qXC,nOp]) (by omega)
   rw[o1,qAA]
   exact ⟨t,c2,rfl,a2,o2.mono (by omega) (by omega)⟩
  rw[qDA k0]
  by_cases k1:r=1;· rw[qHA k1];exact hst
  rw[qDA k1]
  by_cases k2:r=2;· rw[qHA k2];exact hst
  rw[qDA k2]
  by_cases k3:r=3;· rw[qHA k3];exact (hI _ s n2 hs).eta
  rw[qDA k3]
  exact ((qXN hV hl n2 hs).eta).mono (by omega) (by omega)
 rw[qDA h4]
 exact (hA _ s hc (by omega)).eta
end
def gB:Nat->Nat
 |0=>11
 |d+1=>1+3 * gB d
theorem qPas (d:Nat):11<=gB d:=by
 induction d with
 |zero=>exact Nat.le_refl _
 |succ d ih=>simp only[gB];omega
theorem qIas:∀ {d:Nat},d<=6->gB d<=10000:=by
 intro d h
 have:d=0\/d=1\/d=2\/d=3\/d=4\/d=5\/d=6:=by omega
 rcases this with rfl | rfl | rfl | rfl | rfl | rfl | rfl<;>decide
theorem qHy {VS:List Vr} (hV:VSok VS) (hl:VS.length<=1000):∀ d,d<=5->∀ n,3 * d+3<=n->TOk VS (qDB n) d (gB d) (d+4)/\FOk VS (qNA n) d (gB d) (d+4):=by
 have hT0:∀ n,1<=n->TOk VS (qDB n) 0 5 3:=by
  intro n hn
  obtain ⟨m,rfl⟩:∃ m,n=m+1:=⟨n - 1,by omega⟩
  exact T0 (qDB m) (qNA m) (qAC m) (qSA m) (qKB m) hV hl
 have hA0:∀ n,2<=n->FOk VS (qKB n) 0 11 4:=by
  intro n hn
  obtain ⟨m,rfl⟩:∃ m,n=m+1:=⟨n - 1,by omega⟩
  exact qEae (qDB m) (qNA m) (qAC m) (qSA m) (qKB m) hV hl (by omega) (hT0 m (by omega))
 intro d
 induction d with
 |zero=>
  intro _ n hn
  refine ⟨fun c s hc hs=>(hT0 n (by omega) c s hc hs).mono (by decide) (by omega),?_⟩
  obtain ⟨m,rfl⟩:∃ m,n=m+1:=⟨n - 1,by omega⟩
  intro c hc
  have e:qNA (m+1)=qKE (qDB m) (qNA m) (qAC m) (qSA m) (qKB m):=rfl
  rw[e]
  unfold qKE
  rw[qIA (by omega)]
  exact (hA0 m (by omega) c hc).eta
 |succ d ih=>
  intro hd n hn
  have ih:=ih (by omega)
  have hN:=qPas d
  have hN':=qIas (d:=d) (by omega)
  have hI:∀ m,3 * d+4<=m->TOk VS (qAC m) (d+1) (1+3 * gB d) (d+4+1):=by
   intro m hm
   obtain ⟨k,rfl⟩:∃ k,m=k+1:=⟨m - 1,by omega⟩
   obtain ⟨i1,i2⟩:=ih k (by omega)
   exact qGaq (qDB k) (qNA k) (qAC k) (qSA k) (qKB k) (by omega) (by omega) i1 i2
  have hAt:∀ m,3 * d+4<=m->FOk VS (qKB m) d (1+3 * gB d) (d+4+1):=by
   intro m hm
   obtain ⟨k,rfl⟩:∃ k,m=k+1:=⟨m - 1,by omega⟩
   obtain ⟨i1,i2⟩:=ih k (by omega)
   intro c hc
   exact (qEae (qDB k) (qNA k) (qAC k) (qSA k) (qKB k) hV hl (by omega) i1 c hc).mono (by omega) (by omega)
  have hAr:∀ m,3 * d+5<=m->AOk VS (qSA m) (d+1) (1+3 * gB d) (d+4+1):=by
   intro m hm
   obtain ⟨k,rfl⟩:∃ k,m=k+1:=⟨m - 1,by omega⟩
   obtain ⟨i1,i2⟩:=ih k (by omega)
   exact qMah (qDB k) (qNA k) (qAC k) (qSA k) (qKB k) hV hl (by omega) (by omega) (by omega) i1 (hI k (by omega))
  have hFo:∀ m,3 * d+5<=m->FOk VS (qNA m) (d+1) (1+3 * gB d) (d+4+1):=by
   intro m hm
   obtain ⟨k,rfl⟩:∃ k,m=k+1:=⟨m - 1,by omega⟩
   obtain ⟨i1,i2⟩:=ih k (by omega)
   exact qIao (qDB k) (qNA k) (qAC k) (qSA k) (qKB k) (by omega) (by omega) (by omega) i2 (hI k (by omega)) (hA0 k (by omega)) (hAt k (by omega))
  have hTe:∀ m,3 * d+6<=m->TOk VS (qDB m) (d+1) (1+3 * gB d) (d+4+1):=by
   intro m hm
   obtain ⟨k,rfl⟩:∃ k,m=k+1:=⟨m - 1,by omega⟩
   obtain ⟨i1,i2⟩:=ih k (by omega)
   exact qWan (qDB k) (qNA k) (qAC k) (qSA k) (qKB k) hV hl (by omega) (by omega) (by omega) i1 (hFo k (by omega)) (hI k (by omega)) (hAr k (by omega))
  have e:d+4+1=d+1+4:=by omega
  rw[e] at hTe hFo
  exact ⟨hTe n (by omega),hFo n (by omega)⟩
end Go.AM.Num
end
section
namespace Go.AM.Num
open Tf
theorem qUY {v:SV} (h:match v with
 |.b _=>True
 |.z n=>(ti n).length<=73
 |.q r=>(txt r).length<=73
 |.a d P=>Sm 73 d P/\P.length<=75):SmallV (encS v):=by
 cases v with
 |b x=>exact ⟨⟨by simp[encS],fun s hs=>by simp[encS] at hs,fun s hs=>by simp[encS] at hs,by simp[encS]⟩,by simp[encS]⟩
 |z n=>exact ⟨⟨h,fun s hs=>by simp[encS] at hs,fun s hs=>by simp[encS] at hs,by simp[encS]⟩,by simp[encS]⟩
 |q r=>exact ⟨⟨h,fun s hs=>by simp[encS] at hs,fun s hs=>by simp[encS] at hs,by simp[encS]⟩,by simp[encS]⟩
 |a d P=>exact ⟨h.1.short,by simp only[encS];rw[qLF];exact h.2⟩
theorem qUw {c:List Int×Int} (hc:CI c) {s:Int} (hs:1<=s/\s<=4):∃ v c',qOG c s=some ((encS v,()),(c',()))/\CI c'/\qCH v=s/\okS v/\SmallV (encS v):=by
 by_cases h4:s=4
 ·obtain ⟨d,P,c',h1,h2,h3,h5,h6⟩:=qGy hc
  rw[h4]
  exact ⟨.a d P,c',h1,h2,rfl,h3,qUY (v:=.a d P) ⟨⟨by have:=h5.num;omega,fun p hp=>⟨by have:=(h5.els p hp).1;omega,by have:=(h5.els p hp).2;omega⟩,h5.few⟩,by omega⟩⟩
 unfold qOG
 by_cases h1:s=1
 ·obtain ⟨r,c',n1,n2,n3,n4⟩:=qWB hc (n:=2) (by omega)
  rw[qHA h1,n1,qAA,h1]
  exact ⟨.b (r==1),c',rfl,n2,rfl,trivial,qUY (v:=.b (r==1)) trivial⟩
 rw[qDA h1,qDA h4]
 unfold qWD
 by_cases h2:s=2
 ·obtain ⟨z,c',e1,e2,e3⟩:=qWY hc
  rw[qHA h2,e1,qAA,qAA,h2]
  exact ⟨.z z,c',rfl,e2,rfl,trivial,qUY (v:=.z z) (show (ti z).length<=73 by omega)⟩
 ·obtain ⟨q,c',e1,e2,e3⟩:=qLg hc
  have h3:s=3:=by omega
  have hl:(txt q).length<=73:=by have:=qQF q;omega
  rw[qDA h2,e1,qAA,qAA,h3]
  exact ⟨.q q,c',rfl,e2,rfl,trivial,qUY (v:=.q q) hl⟩
theorem qSp {VS:List Vr} (hV:VSok VS) (hl:VS.length<=1000):∀ (m i:Nat) (c:List Int×Int) (out:List Val),i+m=VS.length->CI c->out.length=i->(∀ j (hj:j < VS.length),j < i->∃ v,out[j]?=some (encS v)/\qCH v=VS[j].2/\okS v/\SmallV (encS v))->
 ∃ c' out',qPA qJF (c,VS,out,(i:Int),())=some (.exit 0,(c',VS,out',(VS.length:Int),()))/\CI c'/\out'.length=VS.length/\(∀ j (hj:j < VS.length),∃ v,out'[j]?=some (encS v)/\qCH v=VS[j].2/\okS v/\SmallV (encS v)):=by
 intro m
 induction m with
 |zero=>
  intro i c out hi hc ho hP
  have:i=VS.length:=by omega
  refine ⟨c,out,qWA (by unfold qJF;simp only;rw[qOA (by omega),this]) (by simp),hc,by omega,fun j hj=>hP j hj (by omega)⟩
 |succ m ih=>
  intro i c out hi hc ho hP
  have hil:i < VS.length:=by omega
  have hg:VS.getD i zVr=VS[i]:=by simp[qZ4,hil]
  have hs:=(hV.name _ (List.getElem_mem hil)).2
  obtain ⟨v,c1,h1,h2,h3,h4,h5⟩:=qUw hc hs
  obtain ⟨c',out',e1,e2,e3,e4⟩:=ih (i+1) c1 (out++[encS v]) (by omega) h2 (by simp[ho]) (fun j hj hji=>by
   by_cases e:j=i
   ·subst e
    exact ⟨v,by rw[qY9 (by omega),ho];simp,h3,h4,h5⟩
   ·obtain ⟨w,w1,w2⟩:=hP j hj (by omega)
    exact ⟨w,by rw[qY8 (by omega)];exact w1,w2⟩)
  refine ⟨c',out',?_,e2,e3,e4⟩
  rw[qAB (y:=(c1,VS,out++[encS v],((i+1:Nat):Int),())) (by
   unfold qJF
   simp only
   rw[qIA (by omega),qEA,qBA (by omega),qBA (by omega),qZ0,hg,h1,qAA,qBA (by simp[qWE];omega),w64 (by omega)]
   rfl)]
  exact e1
theorem qAah {VS:List Vr} {vals:List Val} (hl:VS.length<=1000) (hv:vals.length=VS.length):∀ (m i:Nat) (out:List qXS),i+m=VS.length->out.length=i->(∀ j (hj:j < VS.length) (hj':j < vals.length),j < i->out[j]?=some (VS[j].1,vals[j]))->
 ∃ out',qPA qNY (VS,vals,out,(i:Int),())=some (.exit 0,(VS,vals,out',(VS.length:Int),()))/\out'.length=VS.length/\(∀ j (hj:j < VS.length) (hj':j < vals.length),out'[j]?=some (VS[j].1,vals[j])):=by
 intro m
 induction m with
 |zero=>
  intro i out hi ho hP
  have:i=VS.length:=by omega
  exact ⟨out,qWA (by unfold qNY;simp only;rw[qOA (by omega),this]) (by simp),by omega,fun j hj hj'=>hP j hj hj' (by omega)⟩
 |succ m ih=>
  intro i out hi ho hP
  have hil:i < VS.length:=by omega
  have hil':i < vals.length:=by omega
  have hg:VS.getD i zVr=VS[i]:=by simp[qZ4,hil]
  have hg':vals.getD i qKK=vals[i]:=by simp[qZ4,hil']
  obtain ⟨out',e1,e2,e3⟩:=ih (i+1) (out++[(VS[i].1,vals[i])]) (by omega) (by simp[ho]) (fun j hj hj' hji=>by
   by_cases e:j=i
   ·subst e
    rw[qY9 (by omega),ho];simp
   ·rw[qY8 (by omega)];exact hP j hj hj' (by omega))
  refine ⟨out',?_,e2,e3⟩
  rw[qAB (y:=(VS,vals,out++[(VS[i].1,vals[i])],((i+1:Nat):Int),())) (by
   unfold qNY
   simp only
   rw[qIA (by omega),qEA,qBA (by omega),qBA (by omega),qEA,qBA (by omega),qBA (by omega),qZ0,hg,hg',qBA (by simp[qWE];omega),w64 (by omega)]
   rfl)]
  exact e1
structure EnvOk (VS:List Vr) (env:List qXS):Prop where
 len:env.length=VS.length
 val:∀ b∈env,qTG b.2=true/\SmallV b.2
 all:∀ v∈VS,∃ x,qOy env v.1=some x/\qCH x=v.2
theorem qLah {VS:List Vr} (hV:VSok VS) (hl:VS.length<=1000) {c:List Int×Int} (hc:CI c):∃ env c',qBO c VS=some ((env,()),(c',()))/\CI c'/\EnvOk VS env:=by
 obtain ⟨c',vals,e1,e2,e3,e4⟩:=qSp hV hl VS.length 0 c [] (by omega) hc rfl (fun j hj h=>by omega)
 obtain ⟨env,f1,f2,f3⟩:=qAah (vals:=vals) hl e3 VS.length 0 [] (by omega) rfl (fun j hj hj' h=>by omega)
 rw[show ((0:Nat):Int)=0 from rfl] at e1 f1
 refine ⟨env,c',?_,e2,f2,?_,?_⟩
 ·unfold qBO qPN qCam
  rw[e1]
  simp only[qAA,qCC,qRA]
  rw[f1]
  simp only[qAA,qCC,qRA]
 ·intro b hb
  obtain ⟨j,hj⟩:=List.getElem?_of_mem hb
  have hjl:j < env.length:=(List.getElem?_eq_some_iff.1 hj).1
  have h1:=f3 j (by omega) (by omega)
  rw[hj] at h1
  obtain ⟨v,v1,v2,v3,v4⟩:=e4 j (by omega)
  rw[qZ5 (by omega)] at v1
  simp only[Option.some.injEq] at h1 v1
  rw[h1,v1]
  exact ⟨qUd v3,v4⟩
 ·intro v hv
  obtain ⟨i,hi⟩:=List.getElem?_of_mem hv
  obtain ⟨hil,hie⟩:=List.getElem?_eq_some_iff.1 hi
  have h1:=f3 i hil (by omega)
  unfold qOy
  cases hf:env.find? (fun b=>decide (b.1=v.1)) with
  |none=>
   have:=List.find?_eq_none.1 hf _ (qY14 h1)
   simp only[decide_eq_true_eq] at this
   exact absurd (by rw[hie]) this
  |some b=>
   have hb:b.1=v.1:=by simpa using List.find?_some hf
   obtain ⟨j,hj⟩:=List.getElem?_of_mem (List.mem_of_find?_eq_some hf)
   have hjl:j < env.length:=(List.getElem?_eq_some_iff.1 hj).1
   have h2:=f3 j (by omega) (by omega)
   rw[hj] at h2
   obtain ⟨x,x1,x2,x3,x4⟩:=e4 j (by omega)
   rw[qZ5 (by omega)] at x1
   simp only[Option.some.injEq] at h2 x1
   have hn:VS[j].1=v.1:=by rw[h2] at hb;exact hb
   have:=hV.once _ (List.getElem_mem (show j < VS.length by omega)) v hv hn
   refine ⟨x,?_,by rw[x2,this]⟩
   rw[Option.bind_some,h2]
   simp only
   rw[x1,qTah x3]
def VSg:List Vr:=[([120],2),([121],2),([122],3),([119],3),([112],1),([98],1),([97],4),([99],4)]
theorem qPn:qHi=some ((VSg,()),()):=rfl
theorem qHac:VSok VSg:=by
 refine ⟨?_,?_⟩
 ·decide
 ·decide
theorem qBab:VSg.length<=1000:=by decide
theorem qST {c:List Int×Int} (hc:CI c) {d:Nat} (hd:d<=5):qLL VSg c 1 (gB d) (d+4) (qNA big c (d:Int) VSg):=by
 obtain ⟨f,hf1,hf2⟩:=qBac
 rw[hf1]
 exact (qHy qHac qBab d hd f (by omega)).2 c hc
theorem qLP.short {VS:List Vr} {ss:List Int} {N d:Nat} {l:List Nod} (h:qLP VS ss N d l):qMae l:=by
 obtain ⟨K,hK⟩:=h
 exact hK.sh
end Go.AM.Num
end
section
namespace Go.AM.Num
open Tf
theorem qMan {A:qBs->Option SV} {G:Nod->List SV->Int ⊕ SV}:∀ {f g:Tf} {vs ws:List SV},evF A G f=.inr vs->evF A G g=.inr ws->evF A G (f.app g)=.inr (vs++ws):=by
 intro f
 induction f with
 |nil=>intro g vs ws h1 h2;simp only[evF,Sum.inr.injEq] at h1;subst h1;exact h2
 |cons n k r _ ir=>
  intro g vs ws h1 h2
  rw[qLaf] at h1
  have e:(cons n k r).app g=cons n k (r.app g):=rfl
  rw[e,qLaf]
  cases he:evF A G (cons n k Tf.nil) with
  |inl e=>rw[he] at h1;cases h1
  |inr us=>
   rw[he] at h1
   cases hr:evF A G r with
   |inl e=>rw[hr] at h1;cases h1
   |inr rs=>
    rw[hr] at h1
    simp only[Sum.inr.injEq] at h1
    rw[ir hr h2]
    simp only
    rw[<-h1,qZ1]
def EvK (env:List qXS) (ss:List Int) (N d:Nat) (l:List Nod) (vs:List SV):Prop:=∃ K,GenF VSg ss N d l K/\evF (qOy env) G0 K=.inr vs
theorem EvK.mono {env:List qXS} {ss:List Int} {N d M e:Nat} {l:List Nod} {vs:List SV} (h:EvK env ss N d l vs) (hN:N<=M) (hd:d<=e):EvK env ss M e l vs:=by
 obtain ⟨K,hK,hv⟩:=h
 exact ⟨K,⟨hK.flat,hK.wf,hK.srt,hK.nz,hK.sh,by have:=hK.size;omega,by have:=hK.dep;omega,hK.vars,hK.noap⟩,hv⟩
theorem EvK.gen {env:List qXS} {ss:List Int} {N d:Nat} {l:List Nod} {vs:List SV} (h:EvK env ss N d l vs):qLP VSg ss N d l:=by
 obtain ⟨K,hK,_⟩:=h
 exact ⟨K,hK⟩
theorem qAaf {env:List qXS} (hE:EnvOk VSg env) {s:Int} {N d:Nat} {t:List Nod} (h:qLP VSg [s] N d t):∃ v,EvK env [s] N d t [v]:=by
 obtain ⟨K,hK⟩:=h
 obtain ⟨vs,hv⟩:=qBag (A:=qOy env) (G:=G0) K (fun x hx=>hK.noap x (by rw[<-hK.flat];exact hx)) (fun x hx h4=>hE.all _ (hK.vars x (by rw[<-hK.flat];exact hx) h4))
 have hA:=qAad (env:=env) fun b hb=>(hE.val b hb).2
 obtain ⟨h1,_,_⟩:=qUB hA K hK.wf (by rw[hK.srt];exact hK.nz) (fun n hn=>hK.sh n (by rw[<-hK.flat];exact hn)) vs hv
 rw[hK.srt] at h1
 match vs,h1 with
 |[v],_=>exact ⟨v,K,hK,hv⟩
theorem EvK.nil (env:List qXS):EvK env [] 0 0 [] []:=⟨Tf.nil,⟨rfl,rfl,rfl,by simp,fun _ h=>absurd h qY16,Nat.le_refl _,Nat.le_refl _,fun _ h=>absurd h qY16,fun _ h=>absurd h qY16⟩,rfl⟩
theorem EvK.app {env:List qXS} {ss uu:List Int} {N M d:Nat} {l m:List Nod} {vs ws:List SV} (h:EvK env ss N d l vs) (g:EvK env uu M d m ws):EvK env (ss++uu) (N+M) d (l++m) (vs++ws):=by
 obtain ⟨K,hK,hv⟩:=h
 obtain ⟨L,hL,hw⟩:=g
 refine ⟨K.app L,⟨by rw[qFV,hK.flat,hL.flat],by rw[qCo,hK.wf,hL.wf];rfl,by rw[qRa,hK.srt,hL.srt],?_,?_,?_,?_,?_,?_⟩,qMan hv hw⟩
 ·rw[qZ7];exact fun h=>h.elim hK.nz hL.nz
 ·exact fun x hx=>(List.mem_append.1 hx).elim (hK.sh x) (hL.sh x)
 ·rw[qEd];have:=hK.size;have:=hL.size;omega
 ·rw[qLq];have:=hK.dep;have:=hL.dep;omega
 ·exact fun x hx=>(List.mem_append.1 hx).elim (hK.vars x) (hL.vars x)
 ·exact fun x hx=>(List.mem_append.1 hx).elim (hK.noap x) (hL.noap x)
theorem EvK.node {env:List qXS} {ss:List Int} {N d:Nat} {l:List Nod} {vs:List SV} (h:EvK env ss N d l vs) {n:Nod} {s:Int} (hf:qRC n=true) (hc:qHB (nOp n) ss.length=true) (hk:qEF n=(ss.length:Int)) (hs:qXC n (l.getD 0 qQE).1 ss=s) (hz:s≠0)
 (hnum:(qSS n).length<=73) (hv:nOp n≠4) (ha:nOp n≠5):EvK env [s] (N+1) (d+1) (n::l) [opV n vs]:=by
 obtain ⟨K,hK,hev⟩:=h
 have hl:K.len=ss.length:=by rw[<-qEM,hK.srt]
 refine ⟨cons n K Tf.nil,⟨by simp[Tf.flat,hK.flat],qGJ.2 ⟨qWW.2 ⟨hf,by rw[hk];exact hc⟩,by rw[hl];exact hk,hK.wf,rfl⟩,?_,?_,?_,?_,?_,?_,?_⟩,?_⟩
 ·simp only[Tf.srt,hK.srt]
  rw[if_neg hK.nz,qEt hK.flat,hs]
 ·simp[Ne.symm hz]
 ·intro x hx
  rcases List.mem_cons.1 hx with rfl | hx
  ·exact hnum
  ·exact hK.sh x hx
 ·simp only[Tf.size];have:=hK.size;omega
 ·simp only[Tf.dep];have:=hK.dep;omega
 ·intro x hx
  rcases List.mem_cons.1 hx with rfl | hx
  ·exact fun h=>absurd h hv
  ·exact hK.vars x hx
 ·intro x hx
  rcases List.mem_cons.1 hx with rfl | hx
  ·exact ha
  ·exact hK.noap x hx
 ·simp only[evF,hev,evN]
  rw[if_neg hv,if_neg ha]
theorem qDp {env:List qXS} (hE:EnvOk VSg env) {s:Int} {N d:Nat} {t:List Nod} {v:SV} (h:EvK env [s] N d t [v]) (hN:N<=1100) (hd:d<=257):qRi t env []=some ((encS v,0,()),())/\qCH v=s/\okS v/\Bdd (80 * N) v/\VT t h.choose:=by
 have hc:=h.choose_spec
 generalize h.choose=K at hc
 obtain ⟨hK,hv⟩:=hc
 have hvt:=qSak qHac hK (by omega) hd
 have hsm:∀ b∈env,SmallV b.2:=fun b hb=>(hE.val b hb).2
 have hA:=qAad (env:=env) hsm
 obtain ⟨h1,h2,h3⟩:=qUB hA K hK.wf (by rw[hK.srt];exact hK.nz) (fun n hn=>hK.sh n (by rw[<-hK.flat];exact hn)) [v] hv
 rw[hK.srt] at h1
 have hl:t.length<=1100:=by rw[<-hK.flat,qVD];have:=hK.size;omega
 have hel:env.length<=1000000000:=by rw[hE.len];decide
 have hS:=qWt (env:=env) (fun b hb=>(hE.val b hb).1) hvt
 rw[hv] at hS
 refine ⟨?_,by simpa using h1,h2 v (by simp),(h3.mem v (by simp)).mono (by have:=hK.size;omega),hvt⟩
 rw[qGac hK.sh hl hsm hel,hS]
theorem evk_holds {env:List qXS} (hE:EnvOk VSg env) {N d:Nat} {t:List Nod} {v:SV} (h:EvK env [1] N d t [v]) (hN:N<=1100) (hd:d<=257):qQN t env []=some ((isT v,()),()):=by
 obtain ⟨h1,h2,_⟩:=qDp hE h hN hd
 unfold qQN
 rw[h1,qAA,qHA rfl]
 simp only
 rw[qJV,h2,qHA rfl,qWU]
end Go.AM.Num
end
section
namespace Go.AM.Num
open Tf
theorem qFT (o:Int) (ts:List (List Nod)) (hl:ts.length<=1000) (hb:ts.flatten.length<=90000):qTO (o,(0:Int),([]:qBs),([]:qBs),(0:Int)) ts=some (((o,0,[],[],(ts.length:Int))::ts.flatten,()),()):=qRd hl hb
theorem EvK.op {env:List qXS} {ss:List Int} {N d:Nat} {ts:List (List Nod)} {vs:List SV} {o s:Int} (h:EvK env ss N d ts.flatten vs) (hl:ts.length=ss.length) (h1:1<=o/\o<=20) (h':o≠3/\o≠4/\o≠5/\o≠16/\o≠17)
 (hc:qHB o ss.length=true) (hs:qXC ((o,0,[],[],(ss.length:Int)):Nod) (ts.flatten.getD 0 qQE).1 ss=s) (hz:s≠0):EvK env [s] (N+1) (d+1) ((o,0,[],[],(ts.length:Int))::ts.flatten) [opV (o,0,[],[],(ts.length:Int)) vs]:=by
 have e:((ts.length:Nat):Int)=(ss.length:Int):=by rw[hl]
 rw[e]
 exact h.node (qIY h1 h') hc rfl hs hz (by simp[qSS]) h'.2.1 h'.2.2.1
theorem qXt {v:SV} (h:qCH v=1):v=.b (isT v):=by
 cases v with
 |b x=>rfl
 |z n=>simp[qCH] at h
 |q r=>simp[qCH] at h
 |a d P=>simp[qCH] at h
theorem qRaa {env:List qXS} (hE:EnvOk VSg env):∀ (m k:Nat) (c:List Int×Int) (f:List (List Nod)) (vs:List SV),CI c->k+m<=5->f.length=k->EvK env (List.replicate k 1) (k * 103) 6 f.flatten vs->
 ∃ c' f' vs',qPA qGF (c,env,f,vs.all isT,vs.any isT,(m:Int),())=some (.exit 0,(c',env,f',vs'.all isT,vs'.any isT,0,()))/\CI c'/\f'.length=k+m/\EvK env (List.replicate (k+m) 1) ((k+m) * 103) 6 f'.flatten vs':=by
 intro m
 induction m with
 |zero=>
  intro k c f vs hc _ hf hv
  exact ⟨c,f,vs,qWA (by unfold qGF;simp only;rw[qOA (by omega)];rfl) (by simp),hc,hf,hv⟩
 |succ m ih=>
  intro k c f vs hc hb hf hv
  obtain ⟨t,c1,t1,t2,t3⟩:=qST hc (d:=2) (by omega)
  have t1':qNA big c 2 VSg=some ((t,()),(c1,())):=t1
  have hB:gB 2=103:=rfl
  obtain ⟨v,hv1⟩:=qAaf hE t3
  rw[hB] at hv1
  have hho:=evk_holds hE hv1 (by omega) (by omega)
  have hv':EvK env (List.replicate (k+1) 1) ((k+1) * 103) 6 (f++[t]).flatten (vs++[v]):=by
   have:=hv.app hv1
   rw[qOk] at this
   rw[List.flatten_append,qXK,Nat.add_mul,Nat.one_mul]
   exact this
  obtain ⟨c',f',vs',e1,e2,e3,e4⟩:=ih (k+1) c1 (f++[t]) (vs++[v]) t2 (by omega) (by simp[hf]) hv'
  refine ⟨c',f',vs',?_,e2,by omega,?_⟩
  ·have hlen:((f++[t]).length:Int)=((k+1:Nat):Int):=by simp[hf]
   have hg:(f++[t]).getD k []=t:=by simp[qZ4,<-hf]
   rw[qAB (y:=(c1,env,f++[t],(vs++[v]).all isT,(vs++[v]).any isT,(m:Int),())) (by
    unfold qGF
    simp only
    rw[qIA (by omega),qPn,qAA,t1',qAA]
    simp only
    have hw:qI (((f++[t]).length:Int) - 1)=(k:Int):=by rw[hlen,w64 (by omega)];omega
    rw[hw,qBA (by simp[qWE];omega),qEA,qBA (by omega),qBA (by rw[hlen];omega),qZ0,qBA (by simp[hf]),hg,hho,qAA,w64 (by omega)]
    have e:((m+1:Nat):Int) - 1=(m:Int):=by omega
    rw[e,List.all_append,List.any_append]
    simp only[List.all_cons,List.all_nil,List.any_cons,List.any_nil,Bool.and_true,Bool.or_false]
    cases vs.all isT<;>cases vs.any isT<;>rfl)]
   exact e1
  ·have e:k+(m+1)=k+1+m:=by omega
   rw[e];exact e4
theorem qZaf (p q:Bool) (k:Int):isT (opV (11,0,[],[],k) ([.b p]++[.b q]))=(p==q):=by
 unfold opV
 simp only[nOp]
 rw[if_neg (by omega),if_neg (by omega),if_neg (by omega),if_neg (by omega),if_neg (by omega),if_pos trivial]
 simp only[isT,qY5,qY15,qZ3,qZ2]
 cases p<;>cases q<;>simp
theorem qRr (l m:List Int):qHM l m=some ((true,()),()):=by
 obtain ⟨c1,n1,hc1⟩:=qJu l
 obtain ⟨c2,n2,hc2⟩:=qJu m
 obtain ⟨env,c4,e1,e2,hE⟩:=qLah qHac qBab hc2
 obtain ⟨r,c3,m1,m2,m3,m4⟩:=qWB hc1 (n:=4) (by omega)
 obtain ⟨k,rfl⟩:∃ k:Nat,r=k:=⟨r.toNat,by omega⟩
 obtain ⟨c5,f,vs,l1,l2,l3,l4⟩:=qRaa hE k 0 c3 [] [] m2 (by omega) rfl ((EvK.nil env).mono (Nat.zero_le _) (Nat.zero_le _))
 obtain ⟨a,c6,a1,a2,a3⟩:=qST l2 (d:=1) (by omega)
 obtain ⟨b,c7,b1,b2,b3⟩:=qST a2 (d:=1) (by omega)
 have a1':qNA big c5 1 VSg=some ((a,()),(c6,())):=a1
 have b1':qNA big c6 1 VSg=some ((b,()),(c7,())):=b1
 have hB:gB 1=34:=rfl
 rw[hB] at a3 b3
 obtain ⟨x,hx⟩:=qAaf hE a3
 obtain ⟨y,hy⟩:=qAaf hE b3
 have hxh:=evk_holds hE hx (by omega) (by omega)
 have hyh:=evk_holds hE hy (by omega) (by omega)
 have hxs:=qXt (qDp hE hx (by omega) (by omega)).2.1
 have hys:=qXt (qDp hE hy (by omega) (by omega)).2.1
 have hfl:f.flatten.length<=515:=by have:=l4.gen.len;omega
 have hrep:(List.replicate (0+k) (1:Int)).length=0+k:=by simp
 have hal:∀ z∈List.replicate (0+k) (1:Int),z=1:=fun z hz=>(List.mem_replicate.1 hz).2
 have hand:∀ o:Int,o=7\/o=8->EvK env [1] ((0+k) * 103+1) 7 ((o,0,[],[],(f.length:Int))::f.flatten) [opV (o,0,[],[],(f.length:Int)) vs]:=fun o ho=>
  l4.op (by rw[l3,hrep]) (by omega) (by omega) (by
   rw[hrep]
   rcases ho with rfl | rfl
   ·exact qZ10 (show (0:Int)<=((0+k:Nat):Int) by omega)
   ·exact qZ10 (show (0:Int)<=((0+k:Nat):Int) by omega)) (by
   unfold qXC
   simp only[nOp]
   rw[if_neg (by omega),if_pos (by omega),if_pos hal]) (by omega)
 have h7:=evk_holds hE (hand 7 (.inl rfl)) (by omega) (by omega)
 have h8:=evk_holds hE (hand 8 (.inr rfl)) (by omega) (by omega)
 have o7:isT (opV (7,0,[],[],(f.length:Int)) vs)=vs.all isT:=rfl
 have o8:isT (opV (8,0,[],[],(f.length:Int)) vs)=vs.any isT:=by unfold opV;simp[nOp,isT]
 rw[o7] at h7
 rw[o8] at h8
 have hnot:=EvK.op (ts:=[a]) (o:=6) (s:=1) (by rw[qXK];exact hx) rfl (by omega) (by omega) rfl (by simp[qXC,nOp]) (by omega)
 have h6:=evk_holds hE hnot (by omega) (by omega)
 have o6:isT (opV (6,0,[],[],(([a]:List (List Nod)).length:Int)) [x])=!isT x:=by unfold opV;simp[nOp,isT]
 rw[o6] at h6
 have h2:EvK env ([1]++[1]) (34+34) 5 [a,b].flatten ([x]++[y]):=by rw[qXL];exact hx.app hy
 have himp:=EvK.op (o:=9) (s:=1) h2 rfl (by omega) (by omega) rfl (by simp[qXC,nOp]) (by omega)
 have h9:=evk_holds hE himp (by omega) (by omega)
 have o9:isT (opV (9,0,[],[],(([a,b]:List (List Nod)).length:Int)) ([x]++[y]))=(!isT x||isT y):=by unfold opV;simp[nOp,isT]
 rw[o9] at h9
 have heq:=EvK.op (o:=11) (s:=1) h2 rfl (by omega) (by omega) rfl (by simp[qXC,nOp]) (by omega)
 have h11:=evk_holds hE heq (by omega) (by omega)
 have o11:isT (opV (11,0,[],[],(([a,b]:List (List Nod)).length:Int)) ([x]++[y]))=(isT x==isT y):=by
  have:=qZaf (isT x) (isT y) (([a,b]:List (List Nod)).length:Int)
  rw[<-hxs,<-hys] at this
  exact this
 rw[o11] at h11
 unfold qHM
 rw[n1,qAA,n2,qAA,qPn,qAA]
 simp only
 rw[e1,qAA,m1,qAA]
 simp only
 have l1':qPA qGF (c3,env,([]:List (List Nod)),true,false,(k:Int),())=some (.exit 0,(c5,env,f,vs.all isT,vs.any isT,0,())):=l1
 rw[l1']
 simp only[qAA,qCC,qRA]
 rw[a1',qAA]
 simp only
 rw[b1',qAA,hxh,qAA,hyh,qAA,qFT 7 f (by omega) (by omega),qAA]
 simp only
 rw[h7,qAA]
 simp only[beq_self_eq_true,qY2,qVA]
 rw[qFT 8 f (by omega) (by omega),qAA]
 simp only
 rw[h8,qAA]
 simp only[beq_self_eq_true,qY2,qVA]
 have hal2:a.length<=34:=a3.len
 have hbl2:b.length<=34:=b3.len
 unfold qSan r_op
 rw[qAA]
 simp only
 rw[qFT 6 [a] (by simp) (by rw[qXK];omega),qAA,qAA]
 simp only
 rw[h6,qAA]
 simp only[beq_self_eq_true,qRA]
 rw[qFT 9 [a,b] (by simp) (by rw[qXL,qZ6];omega),qAA]
 simp only
 rw[h9,qAA,qFT 11 [a,b] (by simp) (by rw[qXL,qZ6];omega)]
 simp only[qAA]
 rw[h11]
 simp only[qAA,qIy]
 cases isT x<;>cases isT y<;>rfl
end Go.AM.Num
end
section
namespace Go.AM.Num
open Go.Proofs Go.Proofs.YtmckcoeongfmhaaGreatDoor
theorem gPow : Tryz.prog.globalNamed "internal/strconv.uint64pow10" = some 0 := by kernel_rfl
theorem tPow:(Tryz.prog.globals[0]?).map (·.type)=some 313:=by kernel_rfl
theorem qMaq {W:World} (h:W.ShapedOpen Tryz.prog):∃ m,W.cell? ⟨1,0,none⟩=some (.int .i64 m):=
 cell_of_shapedOpen_int (t:=3) (zero:=#[.int .i64 0]) h (of_decide_eq_true (by kernel_rfl)) (by kernel_rfl) rfl (by kernel_rfl) (by kernel_rfl) Tryz.underlying3
theorem qUas {W:World} (hL:laidMetH Tryz.prog Rows.valueZeroRow.laid W) (hsh:W.ShapedOpen Tryz.prog):GN W:=by
 rw[MakeChecks.laidMetH_plain _ _ _ (by kernel_rfl)] at hL
 obtain ⟨ps,⟨g0,t0,cs0,f0,p0,q0,hg0,ht0,hv0,hd0,⟨g1,t1,cs1,f1,p1,q1,hg1,ht1,hv1,hd1,⟨g2,t2,cs2,f2,p2,q2,hg2,ht2,hv2,hd2,_⟩,_⟩,_⟩,_⟩:=hL
 obtain rfl:=Option.some.inj (gPow.symm.trans hg2)
 obtain rfl:=Option.some.inj (tPow.symm.trans ht2)
 refine ⟨qMaq hsh,?_⟩
 have e:(Rows.laid_internal_strconv_uint64pow10:DataW Unit)=Lib.tabData .u64 Lib.pow10Tab:=by kernel_rfl
 rw[e] at hd2
 unfold Lib.TabIs
 rw[hv2,<-Lib.cells_of_tab Tryz.underlying313 Tryz.underlying231 (by kernel_rfl) (by kernel_rfl) hd2]
theorem qYak {w w':World} (h:GN w) (hb:∀ B,B < 2->w'.heap[B]?=w.heap[B]?):GN w':=by
 have hc:∀ B o,B < 2->w'.cell? ⟨B,o,none⟩=w.cell? ⟨B,o,none⟩:=fun B o hB=>by simp[World.cell?,hb B hB]
 refine ⟨?_,?_⟩
 ·rw[hc _ 0 (by decide)];exact h.maxLen
 ·have:=h.pow10
  unfold Lib.TabIs World.var? at this ⊢
  rw[gPow] at this ⊢
  simp only[Option.bind_some] at this ⊢
  rw[hb _ (by decide)]
  exact this
theorem qDam {w:World} (h:GN w):2<=w.heap.size:=by
 obtain ⟨m,hm⟩:=h.maxLen
 exact World.block_lt_of_cell? w ⟨1,0,none⟩ hm
end Go.AM.Num
end
section
namespace Go.AM.Num
open Go.Proofs
noncomputable def VN:Env where
 P:=Tryz.prog
 gb:=2
 G:=GN
 keep:=fun w w' h _ hb=>qYak h hb
 mixed:=by kernel_rfl
theorem f0:Fs Tryz.prog VN l0:=
 (((((((((((⟨rfl,qMas⟩:Fs Tryz.prog VN []).cons (qWS rfl)).cons (qXR rfl (fun _ h=>h))).cons (qWT rfl)).cons (qIc rfl (fun _ h=>h))).cons (qUS rfl (fun _ h=>h))).cons (qUa rfl)).cons (qIZ rfl)).cons (qKY rfl)).cons (qGW rfl)).cons (qVS rfl))
end Go.AM.Num
end
section
namespace Go.AM.Num
open Go.Proofs Go.Proofs.YtmckcoeongfmhaaGreatDoor Go.RowKit Go.ChangeShapes Go.WideShapes Go.ChangeAt
theorem qIz {k:FuncId} {ps:List PK} {g:qVG ps->Option (qVG [.val .bool]×qDg ps)} (hG:Good VN k ⟨ps,[.val .bool],g⟩) (x:qVG ps) (hin:qOB ps x=[]) (hk:cntK ps=0) (o:qDg ps) (hx:g x=some ((true,()),o))
 (W:World) (hW:GN W) (vs:Array Value) (ha:RelL (rdW W) (fun B=>B < W.heap.size) (fun _=>none) (qLB ps x 0 0) vs.toList) :
 Calls Tryz.prog k vs W fun e w'=>e=.returned (.bool true)/\Below W.heap.size W w':=by
 refine Calls.mono (hG.spec x _ o hx W (fun B=>B < W.heap.size) (fun _=>none) vs hW (qDam hW) ?_ ?_) ?_
 ·rw[hin];exact qUao fun _ h=>h
 ·rw[hk];exact ha
 ·rintro e w' ⟨us,I',β',rfl,hf,_,hr⟩
  obtain rfl:us=[.bool true]:=by
   have:qQR ps [.val .bool] (true,())=[.bool true]:=rfl
   rw[this] at hr
   simp only[RelL,RelV] at hr
   obtain ⟨u,us',rfl,rfl,rfl⟩:=hr
   rfl
  refine ⟨rfl,hf.os,hf.tape,hf.output,hf.size,fun B hB=>hf.block B hB ?_⟩
  rw[hin]
  exact qBS B
def IL (l:List Int):Prop:=l.length<=9223372036854775807/\∀ x∈l,qCx x
theorem qKal {n:Int} (h:(Lit.int .i64 n).wf=true):qCx n:=by
 simp only[Lit.wf,qY0,decide_eq_true_eq] at h
 exact h
theorem qCaq {l:List Int} (h:l.length<=maxLen) (hw:∀ x∈l,(Lit.int .i64 x).wf=true):IL l:=⟨by unfold maxLen at h;omega,fun x hx=>qKal (hw x hx)⟩
section
variable {H:Type} {enc:TypeId×Value->H} {W:World} {I:Nat->Prop} {rd:Nat->Nat->Option Value} {β:Nat->Option Place}
theorem qYap:RelL rd I β (qLB [] () 0 0) []:=by simp only[qLB,RelL]
theorem qCae {t:GT} {ps:List PK} {x:t.ty} {y:qVG ps} {v:Value} {vs:List Value} (h:RelV rd I β (Go.AM.enc t x) v) (r:RelL rd I β (qLB ps y 0 0) vs):RelL rd I β (qLB (.val t::ps) (x,y) 0 0) (v::vs):=by
 simp only[qLB,RelL]
 exact ⟨v,vs,rfl,h,r⟩
theorem qFal (a:Addr) (i:Nat) (h:a.spot=none):a.add i=⟨a.block,a.off+i,none⟩:=by
 obtain ⟨b,o,s⟩:=a
 simp only at h;subst h
 simp[Addr.add]
theorem qIae {t e:TypeId} {k:IntKind} {a:Option Addr} {len cap:Nat} {d:DataW H} {p:List MemPlace} (ht:Tryz.prog.underlying t=some (.slice e)) (he:Tryz.prog.underlying e=some (.int k)) (hc:Tryz.prog.cellsOf e=1) (h:DataW.Trod enc Tryz.prog W 0 (fun _=>true) true t (.slice a len cap) d p) :
 ∃ l:List Int,l.length=len/\len<=maxLen/\(∀ x∈l,(Lit.int k x).wf=true)/\TV (rdW W) (fun B=>B < W.heap.size) (.sl (.int k)) l (.slice a len cap):=by
 obtain ⟨fuel,hf⟩:=h
 rcases open_ints ht he hc hf with ⟨hcs,_⟩ | ⟨x,l,c,zs,hcs,_,hl,hm,hz,_,hcell,hwz⟩
 ·simp[Value.cells] at hcs
  obtain ⟨rfl,rfl,rfl⟩:=hcs
  refine ⟨[],rfl,Nat.zero_le _,by simp,?_⟩
  simp only[TV,GT.isAgg,RelC]
  exact ⟨none,0,rfl,Nat.le_refl _,fun h=>absurd rfl h⟩
 ·simp[Value.cells] at hcs
  obtain ⟨rfl,rfl,rfl⟩:=hcs
  simp only[if_true] at hz
  have hzl:zs.length=cap:=by simpa using hz
  refine ⟨zs.take len,by simp;omega,by omega,fun y hy=>hwz y (List.mem_of_mem_take hy),?_⟩
  have hg:∀ i,i < zs.length->W.cell? (x.add i)=some (.int k (zs.getD i 0)):=hcell
  simp only[TV,GT.isAgg,RelC]
  refine ⟨some x,cap,by simp;omega,by simp;omega,fun hne=>?_⟩
  have hpos:0 < zs.length:=by
   have:zs.take len≠[]:=hne
   rcases zs with _ | ⟨z,zs⟩
   ·simp at this
   ·simp
  have hspot:x.spot=none:=by simpa [Addr.add] using World.cell?_spot (hg 0 hpos)
  have hat:∀ i,i < zs.length->W.cell? ⟨x.block,x.off+i,none⟩=some (.int k (zs.getD i 0)):=fun i hi=>by
   rw[<-qFal x i hspot];exact hg i hi
  refine ⟨x.block,x.off,by obtain ⟨b,o,s⟩:=x;simp only at hspot;subst hspot;rfl,World.block_lt_of_cell? W ⟨x.block,x.off+0,none⟩ (hat 0 hpos),fun i z hi=>?_⟩
  have hi1:i < zs.length:=by
   have:=(List.getElem?_eq_some_iff.1 hi).1
   simp at this;omega
  have hzi:zs.getD i 0=z:=by
   rw[List.getElem?_take] at hi
   split at hi
   ·rw[qZ4,hi];rfl
   ·cases hi
  refine ⟨[.int k z],rfl,fun j hj=>?_,rfl⟩
  have:j=0:=by simp[GT.cells] at hj;omega
  subst this
  have:=hat i hi1
  rw[hzi] at this
  have h2:=qXd this rfl
  simpa [GT.cells] using h2
end
end Go.AM.Num
end
section
namespace Go.AM.Num
open Go.Proofs Go.Proofs.YtmckcoeongfmhaaGreatDoor Go.RowKit Go.ChangeShapes Go.WideShapes Go.ChangeAt
noncomputable def qDU (os:Os):World:=
 { World.doorLaid Tryz.prog 400 os with heap:=(World.doorLaid Tryz.prog 400 os).heap.modify 6 fun
  |.cells _ t frozen=>.cells (Go.Pinned.utf8FirstZ.map fun n=>Value.int .u8 (n:Nat)).toArray t frozen
  |o=>o }
set_option maxRecDepth 100000 in
theorem qDaj (os:Os) (args:Array Value):laidMet Tryz.prog Rows.valueZeroRow.laid ((qDU os).forCall (fun _ _=>0) ⟨#[],args,[]⟩).memory:=
 laidMet_of_run' 8 (by kernel_rfl) (by kernel_rfl)
theorem qYah (os:Os) (args:Array Value):(((qDU os).forCall (fun _ _=>0) ⟨#[],args,[]⟩).variablesRefB Tryz.prog)=true:=by kernel_rfl
theorem qGab (os:Os) (args:Array Value):((((qDU os).forCall (fun _ _=>0) ⟨#[],args,[]⟩).heap.toList.drop Tryz.prog.globals.size).take ((begin Tryz.prog (fun _ _=>0) default).world.heap.size - Tryz.prog.globals.size) =
 (begin Tryz.prog (fun _ _=>0) default).world.heap.toList.drop Tryz.prog.globals.size):=by kernel_rfl
theorem own:ownKnob Tryz.prog.godebug=none:=by kernel_rfl
theorem qQae:laidOutB Tryz.prog=true:=by kernel_rfl
end Go.AM.Num
end
section
set_option linter.unusedVariables false
namespace Go.AM.Num
theorem qPg (l:List Int) (hl:IL l) (m:List Int) (hm:IL m):qHM l m=some ((true,()),()):=qRr l m
end Go.AM.Num
end
