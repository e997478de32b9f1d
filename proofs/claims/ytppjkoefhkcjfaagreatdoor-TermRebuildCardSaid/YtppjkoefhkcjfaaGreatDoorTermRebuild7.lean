/- Law TermRebuild: a part of its proof. No conditions. -/
import Derived.Test.YtppjkoefhkcjfaaGreatDoorTermRebuild6
import Derived.Test.YtppjkoefhkcjfaaGreatDoorTermRebuild3
import Derived.Test.YtppjkoefhkcjfaaGreatDoorTermRebuild5
import Derived.Test.YtppjkoefhkcjfaaGreatDoorRows
import Derived.Shelf.Vars
import Derived.Lib.LaidTab
import Derived.ProofKit
import Derived.MakeChecks
import Derived.OpenShut
import Derived.Lib.Strings
import Derived.SliceStrings
import Derived.SizedLaws
import Derived.Test.YtppjkoefhkcjfaaGreatDoorCards
import Derived.Test.YtppjkoefhkcjfaaGreatDoorTie
import Derived.ShutString
import Derived.ChangeOld
import Derived.Below
import Derived.LaidMore
import Derived.Deep.DeepHandedRow
import Derived.Deep.DeepWitnessRowRef
import GoSem.PinnedTables
set_option linter.unusedSimpArgs false
set_option linter.unusedVariables false
section
namespace Go.AM.Num
open Tf
theorem MZ:∃ f,Bl=f/\258<=f:=⟨Bl,rfl,by decide⟩
theorem Ya {t rest:List Aa} {at':Nat} {n:Aa} {k r:Tf} (hd:t.drop at'=(cons n k r).flat++rest) (hw:(cons n k r).wf=true) (hdep:(cons n k r).dep<=257):one 257 (t.drop at')=some (cons n k nil,r.flat++rest):=by
 obtain ⟨w1,w2,w3,w4⟩:=Cp.1 hw
 have e:(cons n k r).flat++rest=(cons n k nil).flat++(r.flat++rest):=by simp[flat]
 rw[hd,e]
 exact Tm _ (Cp.2 ⟨w1,w2,w3,rfl⟩) rfl (by simp only[dep] at hdep ⊢;omega)
theorem ADy {t:List Aa} (hs:BG t) (ht:t.length<=20000) {p:Nat} (hp:p < t.length) {K:Int} (hK:(t.getD p Ao).2.2.2.2=K):∀ (r:Tf) (at':Nat) (rest:List Aa) (out:List Int) (idx:Nat),t.drop at'=r.flat++rest->r.wf=true->r.dep<=257->((idx+r.len:Nat):Int)=K->idx+r.len<=20000->out.length=idx->
 ∃ y,Am Hd (t,(p:Int),out,(at':Int),(idx:Int),())=some (.exit 0,(t,(p:Int),out++r.srt,y)):=by
 intro r
 induction r with
 |nil=>
  intro at' rest out idx _ _ _ hk _ _
  simp only[len,Nat.add_zero] at hk
  refine ⟨_,Ba (y:=(t,(p:Int),out++[],(at':Int),(idx:Int),())) ?_ (by simp)⟩
  unfold Hd
  simp only
  rw[Ap,Ad,Ad,qZ0,hK,AC,qY4]
 |cons n k r _ ir=>
  intro at' rest out idx hd hw hdep hk hb ho
  obtain ⟨w1,w2,w3,w4⟩:=Cp.1 hw
  have hone:=Ya hd hw hdep
  obtain ⟨f,hf1,hf2⟩:=MZ
  have htr:=U5 hs ht f 0 (by omega) (by omega) at'
  rw[show ((0:Nat):Int)=0 from rfl] at htr
  have hat:at'<=t.length:=by
   rcases Nat.lt_or_ge t.length at' with h | h
   ·rw[qY7 (by omega)] at hd
    simp[flat] at hd
   ·exact h
  obtain ⟨d1,d2,d3⟩:=Uc hone hat
  have hts:C0 (257 - 0) t.length (t.drop at')=(((at'+(cons n k nil).size:Nat):Int),(cons n k nil).srt.getD 0 0):=by
   unfold C0
   rw[show 257 - 0=257 from rfl,hone]
   simp only
   rw[d3]
  rw[hts] at htr
  simp only[len] at hk hb
  have hgo:Hd (t,(p:Int),out,(at':Int),(idx:Int),())=some (.normal,(t,(p:Int),out++[(cons n k nil).srt.getD 0 0],((at'+(cons n k nil).size:Nat):Int),((idx+1:Nat):Int),())):=by
   unfold Hd
   simp only
   rw[Ap,Ad,Ad,qZ0,hK,Aw,hf1,htr,Ae,Ad (by simp[As];omega),AB]
   rfl
  obtain ⟨y,hy⟩:=ir (at'+(cons n k nil).size) rest (out++[(cons n k nil).srt.getD 0 0]) (idx+1) d1 w4 (by simp only[dep] at hdep;omega) (by omega) (by omega) (by simp[ho])
  refine ⟨y,?_⟩
  rw[A8 hgo,hy]
  simp[srt]
theorem AFa {t:List Aa} (hs:BG t) (ht:t.length<=20000) {p:Nat} {n:Aa} {k:Tf} {rest:List Aa} (hd:t.drop p=n::(k.flat++rest)) (hn:AU n=(k.len:Int)) (hw:k.wf=true) (hdep:k.dep<=257) (hk:k.size<=20000):Kx t (p:Int)=some ((k.srt,()),()):=by
 obtain ⟨g1,g2⟩:=DV (d:=Ao) hd
 have hkl:=Dz k
 have hd':t.drop (p+1)=k.flat++rest:=by
  have:=congrArg (List.drop 1) hd
  rw[List.drop_drop] at this
  simpa using this
 unfold Kx
 obtain ⟨y,hy⟩:=ADy hs ht g2 (K:=(k.len:Int)) (by rw[g1];exact hn) k (p+1) rest [] 0 hd' hw hdep (by omega) (by omega) rfl
 rw[show ((0:Nat):Int)=0 from rfl] at hy
 rw[AB]
 have e:(p:Int)+1=((p+1:Nat):Int):=rfl
 rw[e,hy]
 simp only[Ae,Bh,Az,qY15]
theorem ACk {a b:List Int} (ha:a.length<=2000000000):KN a b=some ((decide (a=b),()),()):=by
 unfold KN
 by_cases hl:a.length=b.length
 ·rw[BX]
  have:=Gb (step:=IY) (fun k=>(a,b,false,(k:Int),())) (fun k=>(a,b,false,(k:Int),())) a.length (E:=.exit 0) (B:=.ret) (by simp) (by simp) (fun k=>decide (a.getD k 0=b.getD k 0)) (fun k hk=>by
   unfold IY
   simp only
   rw[Aw,Ap,Ad,Ad,Ap,Ad,Ad,qZ0,AB]
   by_cases h:a.getD k 0=b.getD k 0
   ·rw[BX h,if_pos (qZ10 h)];rfl
   ·rw[B5 h,if_neg (fun e=>h (of_decide_eq_true e))]) (by
   unfold IY
   simp only
   rw[AC])
  rw[show ((0:Nat):Int)=0 from rfl] at this
  have heq:(List.range a.length).all (fun k=>decide (a.getD k 0=b.getD k 0))=decide (a=b):=by
   rw[Bool.eq_iff_iff,qY3,decide_eq_true_eq]
   constructor
   ·intro h
    refine List.ext_getElem hl fun k h1 h2=>?_
    have:=h k (List.mem_range.2 h1)
    simpa [qZ4,h1,h2] using this
   ·rintro rfl k _;simp
  rcases this with ⟨h1,h2⟩ | ⟨h1,k,h2⟩
  ·rw[h2,<-heq,h1];simp only[Ae,Bh,Az]
  ·rw[h2,<-heq,h1];simp only[Ae,Cc,Ca,Az,AE]
 ·rw[B5,qZ9 (fun e=>hl (by rw[e]))]
abbrev Fv:=qBs×List Int×Int
structure UI (us:List Us) (vars:List Vr) (funcs:List Fv):Prop where
 w:∀ a∈us,(a.2.1=false/\a.2.2.1=[])\/a.2.1=true
 c:∀ a∈us,∀ b∈us,a.1=b.1->a.2.1=b.2.1->a=b
 v1:∀ x∈vars,(x.1,false,[],x.2)∈us
 v2:∀ nm s,(nm,false,[],s)∈us->(nm,s)∈vars
 f1:∀ x∈funcs,(x.1,true,x.2.1,x.2.2)∈us
 f2:∀ nm a s,(nm,true,a,s)∈us->(nm,a,s)∈funcs
theorem UI.nil:UI [] [] []:=⟨fun a h=>absurd h qY16,fun a h=>absurd h qY16,fun a h=>absurd h qY16,fun _ _ h=>absurd h qY16,fun a h=>absurd h qY16,fun _ _ _ h=>absurd h qY16⟩
theorem UI.again {us:List Us} {vars:List Vr} {funcs:List Fv} (h:UI us vars funcs) {u:Us} (hu:u∈us):UI (us++[u]) vars funcs:=by
 have hm:∀ a,a∈us++[u] ↔ a∈us:=fun a=>by
  rw[qZ7,qZ8]
  exact ⟨fun h=>h.elim id fun e=>e ▸ hu,.inl⟩
 exact ⟨fun a ha=>h.w a ((hm a).1 ha),fun a ha b hb=>h.c a ((hm a).1 ha) b ((hm b).1 hb),fun x hx=>(hm _).2 (h.v1 x hx),fun nm s hx=>h.v2 nm s ((hm _).1 hx),fun x hx=>(hm _).2 (h.f1 x hx),fun nm a s hx=>h.f2 nm a s ((hm _).1 hx)⟩
theorem UI.snoc_c {us:List Us} {vars:List Vr} {funcs:List Fv} (h:UI us vars funcs) {u:Us} (hu:∀ a∈us,a.1=u.1->a.2.1=u.2.1->a=u):∀ a∈us++[u],∀ b∈us++[u],a.1=b.1->a.2.1=b.2.1->a=b:=by
 intro a ha b hb e1 e2
 rcases List.mem_append.1 ha with ha1 | ha1
 ·rcases List.mem_append.1 hb with hb1 | hb1
  ·exact h.c a ha1 b hb1 e1 e2
  ·rw[qZ8] at hb1
   rw[hb1] at e1 e2 ⊢
   exact hu a ha1 e1 e2
 ·rw[qZ8] at ha1
  rw[ha1] at e1 e2 ⊢
  rcases List.mem_append.1 hb with hb1 | hb1
  ·exact (hu b hb1 e1.symm e2.symm).symm
  ·rw[qZ8] at hb1;exact hb1.symm
theorem UI.addV {us:List Us} {vars:List Vr} {funcs:List Fv} (h:UI us vars funcs) {nm:qBs} {s:Int} (hn:∀ x∈vars,x.1≠nm):UI (us++[(nm,false,[],s)]) (vars++[(nm,s)]) funcs:=by
 refine ⟨fun a ha=>?_,h.snoc_c fun a ha e1 e2=>?_,fun x hx=>?_,fun m x hx=>?_,fun x hx=>List.mem_append_left _ (h.f1 x hx),fun m a x hx=>?_⟩
 ·rcases List.mem_append.1 ha with ha | ha
  ·exact h.w a ha
  ·rw[qZ8] at ha;subst ha;exact .inl ⟨rfl,rfl⟩
 ·exfalso
  obtain ⟨m,b,l,z⟩:=a
  simp only at e1 e2
  subst e1;subst e2
  rcases h.w _ ha with ⟨_,q⟩ | q
  ·simp only at q;subst q
   exact hn _ (h.v2 _ _ ha) rfl
  ·cases q
 ·rcases List.mem_append.1 hx with hx | hx
  ·exact List.mem_append_left _ (h.v1 x hx)
  ·rw[qZ8] at hx;subst hx;simp
 ·rcases List.mem_append.1 hx with hx | hx
  ·exact List.mem_append_left _ (h.v2 m x hx)
  ·rw[qZ8] at hx;cases hx;simp
 ·rcases List.mem_append.1 hx with hx | hx
  ·exact h.f2 m a x hx
  ·rw[qZ8] at hx;cases hx
theorem UI.addF {us:List Us} {vars:List Vr} {funcs:List Fv} (h:UI us vars funcs) {nm:qBs} {l:List Int} {s:Int} (hn:∀ x∈funcs,x.1≠nm):UI (us++[(nm,true,l,s)]) vars (funcs++[(nm,l,s)]):=by
 refine ⟨fun a ha=>?_,h.snoc_c fun a ha e1 e2=>?_,fun x hx=>List.mem_append_left _ (h.v1 x hx),fun m x hx=>?_,fun x hx=>?_,fun m a x hx=>?_⟩
 ·rcases List.mem_append.1 ha with ha | ha
  ·exact h.w a ha
  ·rw[qZ8] at ha;subst ha;exact .inr rfl
 ·exfalso
  obtain ⟨m,b,l',z⟩:=a
  simp only at e1 e2
  subst e1;subst e2
  exact hn _ (h.f2 _ _ _ ha) rfl
 ·rcases List.mem_append.1 hx with hx | hx
  ·exact h.v2 m x hx
  ·rw[qZ8] at hx;cases hx
 ·rcases List.mem_append.1 hx with hx | hx
  ·exact List.mem_append_left _ (h.f1 x hx)
  ·rw[qZ8] at hx;subst hx;simp
 ·rcases List.mem_append.1 hx with hx | hx
  ·exact List.mem_append_left _ (h.f2 m a x hx)
  ·rw[qZ8] at hx;cases hx;simp
theorem Zs {t:List Aa} {vars:List Vr} {funcs:List Fv} {i:Nat} {n:Aa} (hi:i < t.length) (hn:t.getD i Ao=n) (hl:vars.length<=20000):∀ (m q:Nat) (known:Bool),q+m=vars.length->
 ((∃ x∈vars.drop q,x.1=n.2.2.1/\x.2≠n.2.1)/\∃ y,Am Gy (t,false,vars,funcs,(i:Int),known,(q:Int),())=some (.ret,(t,false,vars,funcs,(i:Int),y)))\/
 ((∀ x∈vars.drop q,x.1=n.2.2.1->x.2=n.2.1)/\Am Gy (t,false,vars,funcs,(i:Int),known,(q:Int),())=some (.exit 3,(t,false,vars,funcs,(i:Int),known||(vars.drop q).any (fun x=>decide (x.1=n.2.2.1)),(vars.length:Int),()))):=by
 intro m
 induction m with
 |zero=>
  intro q known hq
  have e:vars.drop q=[]:=qY7 (by omega)
  rw[e]
  refine .inr ⟨fun x hx=>absurd hx qY16,Ba ?_ (by simp)⟩
  unfold Gy
  simp only
  rw[AC]
  have:q=vars.length:=by omega
  rw[this]
  simp
 |succ m ih=>
  intro q known hq
  have hql:q < vars.length:=by omega
  have hd:=qY6 hql
  have hg:vars.getD q BT=vars[q]:=by simp[qZ4,hql]
  rw[hd]
  generalize vars[q]=x at hg hd
  have hstep:Gy (t,false,vars,funcs,(i:Int),known,(q:Int),())=if x.1=n.2.2.1 then (if x.2=n.2.1 then some (.normal,(t,false,vars,funcs,(i:Int),true,((q+1:Nat):Int),())) else some (.ret,(t,false,vars,funcs,(i:Int),true,(q:Int),()))) else some (.normal,(t,false,vars,funcs,(i:Int),known,((q+1:Nat):Int),())):=by
   unfold Gy
   simp only
   rw[Aw,Ap,Ad,Ad,qZ0,qZ0,Ad hql,Ap,Ad,Ad,hg,hn,AB]
   by_cases h1:x.1=n.2.2.1
   ·rw[show (x.1==n.2.2.1)=true by simpa using h1,if_pos h1,Az,Ap,Ad,Ad,Ad hql,Ap,Ad,Ad]
    by_cases h2:x.2=n.2.1
    ·rw[BX h2,if_pos h2];rfl
    ·rw[B5 h2,if_neg h2]
   ·rw[show (x.1==n.2.2.1)=false by simpa using h1,if_neg h1,AE];rfl
  by_cases h1:x.1=n.2.2.1
  ·rw[if_pos h1] at hstep
   by_cases h2:x.2=n.2.1
   ·rw[if_pos h2] at hstep
    rcases ih (q+1) true (by omega) with ⟨⟨z,z1,z2⟩,y,hy⟩ | ⟨hz,hy⟩
    ·exact .inl ⟨⟨z,qY13 _ z1,z2⟩,y,by rw[A8 hstep,hy]⟩
    ·refine .inr ⟨fun z hz' e=>?_,?_⟩
     ·rcases List.mem_cons.1 hz' with rfl | hz'
      ·exact h2
      ·exact hz z hz' e
     ·rw[A8 hstep,hy,List.any_cons,qZ10 h1];simp
   ·rw[if_neg h2] at hstep
    exact .inl ⟨⟨x,by simp,h1,h2⟩,_,Ba hstep (by simp)⟩
  ·rw[if_neg h1] at hstep
   rcases ih (q+1) known (by omega) with ⟨⟨z,z1,z2⟩,y,hy⟩ | ⟨hz,hy⟩
   ·exact .inl ⟨⟨z,qY13 _ z1,z2⟩,y,by rw[A8 hstep,hy]⟩
   ·refine .inr ⟨fun z hz' e=>?_,?_⟩
    ·rcases List.mem_cons.1 hz' with rfl | hz'
     ·exact absurd e h1
     ·exact hz z hz' e
    ·rw[A8 hstep,hy,List.any_cons,qZ9 h1,Bool.false_or]
theorem ABt {t:List Aa} {vars:List Vr} {funcs:List Fv} {i:Nat} {g:Fv} (hl:funcs.length<=20000) (hfl:∀ x∈funcs,x.2.1.length<=20000):∀ (m q:Nat) (known:Bool),q+m=funcs.length->
 ((∃ x∈funcs.drop q,x.1=g.1/\x≠g)/\∃ y,Am Gi (t,false,vars,funcs,(i:Int),g,known,(q:Int),())=some (.ret,(t,false,vars,funcs,(i:Int),y)))\/
 ((∀ x∈funcs.drop q,x.1=g.1->x=g)/\Am Gi (t,false,vars,funcs,(i:Int),g,known,(q:Int),())=some (.exit 5,(t,false,vars,funcs,(i:Int),g,known||(funcs.drop q).any (fun x=>decide (x.1=g.1)),(funcs.length:Int),()))):=by
 intro m
 induction m with
 |zero=>
  intro q known hq
  have e:funcs.drop q=[]:=qY7 (by omega)
  rw[e]
  refine .inr ⟨fun x hx=>absurd hx qY16,Ba ?_ (by simp)⟩
  unfold Gi
  simp only
  rw[AC]
  have:q=funcs.length:=by omega
  rw[this]
  simp
 |succ m ih=>
  intro q known hq
  have hql:q < funcs.length:=by omega
  have hd:=qY6 hql
  have hg:funcs.getD q (([]:qBs),([]:List Int),(0:Int))=funcs[q]:=by simp[qZ4,hql]
  have hxl:=hfl _ (List.getElem_mem hql)
  rw[hd]
  generalize funcs[q]=x at hg hd hxl
  obtain ⟨xn,xa,xr⟩:=x
  obtain ⟨gn,ga,gr⟩:=g
  simp only at hxl
  have hstep:Gi (t,false,vars,funcs,(i:Int),(gn,ga,gr),known,(q:Int),())=if xn=gn then (if (xn,xa,xr)=(gn,ga,gr) then some (.normal,(t,false,vars,funcs,(i:Int),(gn,ga,gr),true,((q+1:Nat):Int),())) else some (.ret,(t,false,vars,funcs,(i:Int),(gn,ga,gr),true,(q:Int),()))) else some (.normal,(t,false,vars,funcs,(i:Int),(gn,ga,gr),known,((q+1:Nat):Int),())):=by
   unfold Gi
   simp only
   rw[Aw,Ap,Ad,Ad,qZ0,Ad hql,hg,AB]
   by_cases h1:xn=gn
   ·rw[show (xn==gn)=true by simpa using h1,if_pos h1,Az,Ap,Ad,Ad,Ad hql]
    by_cases h2:xr=gr
    ·rw[BX h2,Ap,Ad,Ad,Ad hql,ACk (show xa.length<=2000000000 by omega),Ae]
     by_cases h3:xa=ga
     ·rw[qZ10 h3,if_pos (by rw[h1,h2,h3])];rfl
     ·rw[qZ9 h3,if_neg (fun e=>h3 (by cases e;rfl))];rfl
    ·rw[B5 h2,if_neg (fun e=>h2 (by cases e;rfl))]
   ·rw[show (xn==gn)=false by simpa using h1,if_neg h1,AE];rfl
  by_cases h1:xn=gn
  ·rw[if_pos h1] at hstep
   by_cases h2:(xn,xa,xr)=(gn,ga,gr)
   ·rw[if_pos h2] at hstep
    rcases ih (q+1) true (by omega) with ⟨⟨z,z1,z2⟩,y,hy⟩ | ⟨hz,hy⟩
    ·exact .inl ⟨⟨z,qY13 _ z1,z2⟩,y,by rw[A8 hstep,hy]⟩
    ·refine .inr ⟨fun z hz' e=>?_,?_⟩
     ·rcases List.mem_cons.1 hz' with rfl | hz'
      ·exact h2
      ·exact hz z hz' e
     ·rw[A8 hstep,hy,List.any_cons,qZ10 h1];simp
   ·rw[if_neg h2] at hstep
    exact .inl ⟨⟨_,by simp,h1,h2⟩,_,Ba hstep (by simp)⟩
  ·rw[if_neg h1] at hstep
   rcases ih (q+1) known (by omega) with ⟨⟨z,z1,z2⟩,y,hy⟩ | ⟨hz,hy⟩
   ·exact .inl ⟨⟨z,qY13 _ z1,z2⟩,y,by rw[A8 hstep,hy]⟩
   ·refine .inr ⟨fun z hz' e=>?_,?_⟩
    ·rcases List.mem_cons.1 hz' with rfl | hz'
     ·exact absurd e h1
     ·exact hz z hz' e
    ·rw[A8 hstep,hy,List.any_cons,qZ9 h1,Bool.false_or]
theorem AAp {F:Tf} {t:List Aa} (hs:BG t) (hF:F.flat=t) (hw:F.wf=true) (h0:(0:Int)∉F.srt) (hz:F.size<=20000) (hdep:F.dep<=258) {p:Nat} (hp:p < F.size) {vars:List Vr} {funcs:List Fv}
 (hI:UI (CJ F p) vars funcs) (hl:vars.length<=p) (hm:funcs.length<=p) :
 (¬ CR (CJ F (p+1))/\∃ x,FX (t,false,vars,funcs,(p:Int),())=some (.ret,(t,false,x)))\/
 ∃ vars' funcs',UI (CJ F (p+1)) vars' funcs'/\vars'.length<=p+1/\funcs'.length<=p+1/\FX (t,false,vars,funcs,(p:Int),())=some (.normal,(t,false,vars',funcs',((p+1:Nat):Int),())):=by
 obtain ⟨n,k,x,rest,rest2,h1,h2,h3⟩:=Q4 F 0 p hp
 obtain ⟨g1,g2⟩:=DV (d:=Ao) h2
 have hmem:(n,k)∈F.subs:=qY14 h1
 obtain ⟨w1,w2,w3,w4⟩:=M7 hw h0 hmem
 have hks:=Kt hmem
 have htl:t.length=F.size:=by rw[<-hF,Br]
 rw[hF] at g1 h2
 have hwp:qI ((p:Int)+1)=((p+1:Nat):Int):=by rw[AB];rfl
 have hT:=P6 h1
 have hkd:k.dep<=257:=by
  have:∀ (f:Tf),(n,k)∈f.subs->k.dep+1<=f.dep:=by
   intro f
   induction f with
   |nil=>intro h;simp[subs] at h
   |cons a b c ib ic=>
    intro h
    simp only[subs,qY12,qZ7,Prod.mk.injEq] at h
    simp only[dep]
    rcases h with ⟨rfl,rfl⟩ | h | h
    ·omega
    ·have:=ib h;omega
    ·have:=ic h;omega
  have:=this F hmem
  omega
 unfold FX
 simp only
 rw[Aw,Ap,Ad,Ad,qZ0,g1]
 by_cases e4:n.1=4
 ·have hu:B8 (n,k)=some (n.2.2.1,false,[],n.2.1):=by unfold B8;rw[if_pos e4]
  rw[hu] at hT
  rw[Av e4]
  rcases Zs (funcs:=funcs) (t:=t) (i:=p) (n:=n) (by omega) g1 (show vars.length<=20000 by omega) vars.length 0 false (by omega) with ⟨⟨y,y1,y2,y3⟩,z,hz'⟩ | ⟨hy,hz'⟩
  ·rw[show ((0:Nat):Int)=0 from rfl] at hz'
   rw[hz']
   simp only[Ae,Cc,Ca,Az,AE]
   refine .inl ⟨fun hc=>y3 ?_,_,rfl⟩
   rw[hT] at hc
   have hy1:=hI.v1 y (by simpa using y1)
   have:=hc _ (List.mem_append_left _ hy1) (n.2.2.1,false,[],n.2.1) (by simp) y2
   simp only[Prod.mk.injEq] at this
   exact this.2.2.2
  ·rw[show ((0:Nat):Int)=0 from rfl] at hz'
   rw[hz']
   simp only[Ae,Bh,Az,Bool.false_or,List.drop_zero]
   by_cases hk:(vars.any fun x=>decide (x.1=n.2.2.1))=true
   ·rw[hk]
    simp only[qY2,AE,hwp]
    obtain ⟨y,y1,y2⟩:=List.any_eq_true.1 hk
    have y2':y.1=n.2.2.1:=of_decide_eq_true y2
    have hy1:=hI.v1 y y1
    have e2:=hy y (by simpa using y1) y2'
    rw[y2',e2] at hy1
    exact .inr ⟨_,_,by rw[hT];exact hI.again hy1,by omega,by omega,rfl⟩
   ·rw[Bool.not_eq_true] at hk
    rw[hk]
    simp only[qY1,Az]
    rw[Ap,Ad,Ad,Ap,Ad,Ad,Ad (by simp[As];omega),qZ0,g1,hwp]
    have hx:∀ y∈vars,y.1≠n.2.2.1:=fun y hy1 e=>List.any_eq_false.1 hk y hy1 (qZ10 e)
    exact .inr ⟨_,_,by rw[hT];exact hI.addV hx,by simp;omega,by omega,rfl⟩
 ·rw[Aj e4]
  by_cases e5:n.1=5
  ·have hu:B8 (n,k)=some (n.2.2.1,true,k.srt,n.2.1):=by unfold B8;rw[if_neg e4,if_pos e5]
   rw[hu] at hT
   rw[Av e5]
   have hfa:Ki t (p:Int)=some (((n.2.2.1,k.srt,n.2.1),()),()):=by
    unfold Ki
    rw[Ap,Ad,Ad,AFa hs (by omega) h2 w2 w3 hkd (by omega),Ae,Ap,Ad,Ad,qZ0,g1]
   rw[hfa,Ae]
   have hfl:∀ x∈funcs,x.2.1.length<=20000:=by
    intro y hy
    have hb2:=hI.f1 y hy
    obtain ⟨⟨n',k'⟩,m1,m2⟩:=List.mem_filterMap.1 (LH _ hb2)
    unfold B8 at m2
    split at m2
    ·simp at m2
    ·split at m2
     ·simp only[Option.some.injEq,Prod.mk.injEq] at m2
      rw[<-m2.2.2.1,C8]
      have:=Kt m1;have:=Dz k';omega
     ·cases m2
   rcases ABt (t:=t) (vars:=vars) (i:=p) (g:=(n.2.2.1,k.srt,n.2.1)) (show funcs.length<=20000 by omega) hfl funcs.length 0 false (by omega) with ⟨⟨y,y1,y2,y3⟩,z,hz'⟩ | ⟨hy,hz'⟩
   ·rw[show ((0:Nat):Int)=0 from rfl] at hz'
    simp only
    rw[hz']
    simp only[Ae,Cc,Ca,Az,AE]
    refine .inl ⟨fun hc=>y3 ?_,_,rfl⟩
    rw[hT] at hc
    have hy1:=hI.f1 y (by simpa using y1)
    have:=hc _ (List.mem_append_left _ hy1) (n.2.2.1,true,k.srt,n.2.1) (by simp) y2
    obtain ⟨ya,yb,yc⟩:=y
    simp only[Prod.mk.injEq,true_and] at this ⊢
    exact this
   ·rw[show ((0:Nat):Int)=0 from rfl] at hz'
    simp only
    rw[hz']
    simp only[Ae,Bh,Az,Bool.false_or,List.drop_zero]
    by_cases hk:(funcs.any fun x=>decide (x.1=n.2.2.1))=true
    ·rw[hk]
     simp only[qY2,AE,hwp]
     obtain ⟨y,y1,y2⟩:=List.any_eq_true.1 hk
     have y2':y.1=n.2.2.1:=of_decide_eq_true y2
     have hy1:=hI.f1 y y1
     have e2:=hy y (by simpa using y1) y2'
     rw[e2] at hy1
     exact .inr ⟨_,_,by rw[hT];exact hI.again hy1,by omega,by omega,rfl⟩
    ·rw[Bool.not_eq_true] at hk
     rw[hk]
     simp only[qY1,Az]
     rw[Ad (by simp[As];omega),hwp]
     have hx:∀ y∈funcs,y.1≠n.2.2.1:=fun y hy1 e=>List.any_eq_false.1 hk y hy1 (qZ10 e)
     exact .inr ⟨_,_,by rw[hT];exact hI.addF hx,by omega,by simp;omega,rfl⟩
  ·have hu:B8 (n,k)=none:=by unfold B8;rw[if_neg e4,if_neg e5]
   rw[hu] at hT
   rw[Aj e5,hwp]
   exact .inr ⟨_,_,by rw[hT];simpa using hI,by omega,by omega,rfl⟩
theorem YD {F:Tf} {t:List Aa} (hs:BG t) (hF:F.flat=t) (hw:F.wf=true) (h0:(0:Int)∉F.srt) (hz:F.size<=20000) (hdep:F.dep<=258):∀ (m p:Nat) (vars:List Vr) (funcs:List Fv),p+m=F.size->
 UI (CJ F p) vars funcs->vars.length<=p->funcs.length<=p->
 (¬ CR (Ch F)/\∃ x,Am FX (t,false,vars,funcs,(p:Int),())=some (.ret,(t,false,x)))\/
 ∃ vars' funcs' y,UI (Ch F) vars' funcs'/\vars'.length<=20000/\funcs'.length<=20000/\Am FX (t,false,vars,funcs,(p:Int),())=some (.exit 0,(t,false,vars',funcs',y)):=by
 have htl:t.length=F.size:=by rw[<-hF,Br]
 intro m
 induction m with
 |zero=>
  intro p vars funcs hp hI hl hm
  have e:CJ F p=Ch F:=by unfold CJ Ch;rw[List.take_of_length_le (by rw[Fk];omega)]
  rw[e] at hI
  exact .inr ⟨vars,funcs,_,hI,by omega,by omega,Ba (by unfold FX;simp only;rw[AC]) (by simp)⟩
 |succ m ih=>
  intro p vars funcs hp hI hl hm
  rcases AAp hs hF hw h0 hz hdep (p:=p) (by omega) hI hl hm with ⟨h1,x,h2⟩ | ⟨vars',funcs',h1,h2,h3,h4⟩
  ·exact .inl ⟨fun hc=>h1 (hc.mono LH),x,Ba h2 (by simp)⟩
  ·rw[A8 h4]
   exact ih (p+1) vars' funcs' (by omega) h1 h2 h3
theorem VO {vars:List Vr} {funcs:List Fv} (hl:funcs.length<=20000) {i:Nat} (hi:i < vars.length):∀ (m q:Nat),q+m=funcs.length->
 ((∃ g∈funcs.drop q,(vars.getD i BT).1=g.1)/\∃ y,Am GM (false,vars,funcs,(i:Int),(q:Int),())=some (.ret,(false,vars,funcs,(i:Int),y)))\/
 ((∀ g∈funcs.drop q,(vars.getD i BT).1≠g.1)/\∃ y,Am GM (false,vars,funcs,(i:Int),(q:Int),())=some (.exit 9,(false,vars,funcs,(i:Int),y))):=by
 intro m
 induction m with
 |zero=>
  intro q hq
  have e:funcs.drop q=[]:=qY7 (by omega)
  rw[e]
  exact .inr ⟨fun x hx=>absurd hx qY16,_,Ba (by unfold GM;simp only;rw[AC]) (by simp)⟩
 |succ m ih=>
  intro q hq
  have hql:q < funcs.length:=by omega
  have hd:=qY6 hql
  have hg:funcs.getD q (([]:qBs),([]:List Int),(0:Int))=funcs[q]:=by simp[qZ4,hql]
  rw[hd]
  generalize funcs[q]=x at hg hd
  have hstep:GM (false,vars,funcs,(i:Int),(q:Int),())=if (vars.getD i BT).1=x.1 then some (.ret,(false,vars,funcs,(i:Int),(q:Int),())) else some (.normal,(false,vars,funcs,(i:Int),((q+1:Nat):Int),())):=by
   unfold GM
   simp only
   rw[Aw,Ap,Ad,Ad,qZ0,qZ0,Ad hi,Ap,Ad,Ad,Ad hql,hg,AB]
   by_cases h1:(vars.getD i BT).1=x.1
   ·rw[show ((vars.getD i BT).1==x.1)=true from beq_iff_eq.2 h1,if_pos h1,Az]
   ·rw[show ((vars.getD i BT).1==x.1)=false from beq_eq_false_iff_ne.2 h1,if_neg h1,AE];rfl
  by_cases h1:(vars.getD i BT).1=x.1
  ·rw[if_pos h1] at hstep
   exact .inl ⟨⟨x,by simp,h1⟩,_,Ba hstep (by simp)⟩
  ·rw[if_neg h1] at hstep
   rcases ih (q+1) (by omega) with ⟨⟨z,z1,z2⟩,y,hy⟩ | ⟨hz,y,hy⟩
   ·exact .inl ⟨⟨z,qY13 _ z1,z2⟩,y,by rw[A8 hstep,hy]⟩
   ·refine .inr ⟨fun z hz'=>?_,y,by rw[A8 hstep,hy]⟩
    rcases List.mem_cons.1 hz' with rfl | hz'
    ·exact h1
    ·exact hz z hz'
theorem AAH {vars:List Vr} {funcs:List Fv} (hv:vars.length<=20000) (hl:funcs.length<=20000):∀ (m i:Nat),i+m=vars.length->
 ((∃ v∈vars.drop i,∃ g∈funcs,v.1=g.1)/\∃ y,Am FH (false,vars,funcs,(i:Int),())=some (.ret,(false,y)))\/
 ((∀ v∈vars.drop i,∀ g∈funcs,v.1≠g.1)/\∃ y,Am FH (false,vars,funcs,(i:Int),())=some (.exit 7,y)):=by
 intro m
 induction m with
 |zero=>
  intro i hi
  have e:vars.drop i=[]:=qY7 (by omega)
  rw[e]
  exact .inr ⟨fun x hx=>absurd hx qY16,_,Ba (by unfold FH;simp only;rw[AC]) (by simp)⟩
 |succ m ih=>
  intro i hi
  have hil:i < vars.length:=by omega
  have hd:=qY6 hil
  have hg:vars.getD i BT=vars[i]:=by simp[qZ4,hil]
  have hin:=VO (vars:=vars) hl hil funcs.length 0 (by omega)
  rw[hg] at hin
  rw[hd]
  generalize vars[i]=x at hg hd hin
  rw[List.drop_zero,show ((0:Nat):Int)=0 from rfl] at hin
  rcases hin with ⟨⟨g,g1,g2⟩,y,hy⟩ | ⟨hn,y,hy⟩
  ·refine .inl ⟨⟨x,by simp,g,g1,g2⟩,_,Ba (y:=(false,vars,funcs,(i:Int),())) ?_ (by simp)⟩
   unfold FH
   simp only
   rw[Aw,hy]
   simp only[Ae,Cc,Ca,Az,AE]
  ·have hgo:FH (false,vars,funcs,(i:Int),())=some (.normal,(false,vars,funcs,((i+1:Nat):Int),())):=by
    unfold FH
    simp only
    rw[Aw,hy]
    simp only[Ae,Bh,Az]
    rw[AB]
    rfl
   rcases ih (i+1) (by omega) with ⟨⟨v,v1,v2⟩,y,hy⟩ | ⟨hz,y,hy⟩
   ·exact .inl ⟨⟨v,qY13 _ v1,v2⟩,y,by rw[A8 hgo,hy]⟩
   ·refine .inr ⟨fun z hz'=>?_,y,by rw[A8 hgo,hy]⟩
    rcases List.mem_cons.1 hz' with rfl | hz'
    ·exact hn
    ·exact hz z hz'
theorem AAQ {F:Tf} {t:List Aa} (hs:BG t) (hF:F.flat=t) (hw:F.wf=true) (h0:(0:Int)∉F.srt) (hz:F.size<=20000) (hdep:F.dep<=258):∃ b,K4 t=some ((b,()),())/\(b=true ↔ CR (Ch F)):=by
 unfold K4
 rcases YD hs hF hw h0 hz hdep F.size 0 [] [] (by omega) UI.nil (by simp) (by simp) with ⟨h1,x,h2⟩ | ⟨vars,funcs,y,h1,h2,h3,h4⟩
 ·rw[show ((0:Nat):Int)=0 from rfl] at h2
  rw[h2]
  simp only[Ae,Cc,Ca,Az,AE]
  exact ⟨false,rfl,fun h=>(by cases h),fun h=>absurd h h1⟩
 ·rw[show ((0:Nat):Int)=0 from rfl] at h4
  rw[h4]
  simp only[Ae,Bh,Az]
  rcases AAH h2 h3 vars.length 0 (by omega) with ⟨⟨v,v1,g,g1,e⟩,y,hy⟩ | ⟨hn,y,hy⟩
  ·rw[show ((0:Nat):Int)=0 from rfl] at hy
   rw[hy]
   simp only[Ae,Cc,Ca,Az,AE]
   refine ⟨false,rfl,fun h=>(by cases h),fun hc=>?_⟩
   have:=hc _ (h1.v1 v (by simpa using v1)) _ (h1.f1 g g1) e
   simp at this
  ·rw[show ((0:Nat):Int)=0 from rfl] at hy
   rw[hy]
   simp only[Ae,Bh,Az]
   refine ⟨true,rfl,fun _=>?_,fun _=>rfl⟩
   intro a ha b hb e
   obtain ⟨an,ab,al,azs'⟩:=a
   obtain ⟨bn,bb,bl,bs⟩:=b
   simp only at e
   subst e
   rcases h1.w _ ha with ⟨p1,p2⟩ | p1<;>rcases h1.w _ hb with ⟨q1,q2⟩ | q1<;>simp only at p1 q1
   ·exact h1.c _ ha _ hb rfl (by simp only;rw[p1,q1])
   ·simp only at p2
    subst p1;subst p2;subst q1
    exact absurd rfl (hn _ (by simpa using h1.v2 _ _ ha) _ (h1.f2 _ _ _ hb))
   ·simp only at q2
    subst p1;subst q2;subst q1
    exact absurd rfl (hn _ (by simpa using h1.v2 _ _ hb) _ (h1.f2 _ _ _ ha))
   ·exact h1.c _ ha _ hb rfl (by simp only;rw[p1,q1])
theorem AAO {t:List Aa} (hs:BG t):(∃ F,VT t F/\E9 t=some ((F.srt.getD 0 0,()),())/\1<=F.srt.getD 0 0)\/((¬ ∃ F,VT t F)/\E9 t=some ((0,()),())):=by
 unfold E9
 by_cases hl:t.length > 20000
 ·rw[Aw]
  refine .inr ⟨fun ⟨F,hF⟩=>?_,rfl⟩
  have:=hF.size
  have h2:=Br F
  rw[hF.flat] at h2
  omega
 rw[AC]
 obtain ⟨f,hf1,hf2⟩:=MZ
 have htr:=U5 hs (by omega) f 0 (by omega) (by omega) 0
 rw[show ((0:Nat):Int)=0 from rfl,List.drop_zero] at htr
 rw[hf1,htr,Ae]
 have hiff:∀ F,VT t F->one 257 t=some (F,[]):=by
  intro F hF
  have:=Tm (f:=F) (d:=257) [] hF.wf hF.len hF.dep
  rw[qY4,hF.flat] at this
  exact this
 unfold C0
 rw[show 257 - 0=257 from rfl]
 cases ho:one 257 t with
 |none=>
  simp only
  rw[B5 (show (-1:Int)≠(t.length:Int) by omega)]
  exact .inr ⟨fun ⟨F,hF⟩=>(by rw[hiff F hF] at ho;cases ho),rfl⟩
 |some x=>
  obtain ⟨F,l'⟩:=x
  obtain ⟨o1,o2,o3,o4⟩:=Mb 257 ho
  simp only
  by_cases hl':l'=[]
  ·subst hl'
   rw[qY4] at o1
   rw[BX (show (t.length:Int) - (([]:List Aa).length:Int)=(t.length:Int) by simp)]
   obtain ⟨x,hx⟩:∃ x,F.srt=[x]:=by
    have:=C8 F
    rw[o3] at this
    match h:F.srt,this with
    |[x],_=>exact ⟨x,rfl⟩
   have hg:F.srt.getD 0 0=x:=by rw[hx];rfl
   have hz:F.size<=20000:=by rw[<-Br,<-o1];omega
   by_cases h0:F.srt.getD 0 0=0
   ·rw[Av h0]
    refine .inr ⟨fun ⟨G,hG⟩=>?_,rfl⟩
    have:=hiff G hG
    rw[ho] at this
    cases this
    exact hG.srt (by rw[hx,<-hg,h0];simp)
   rw[Aj h0]
   have hn:(0:Int)∉F.srt:=by rw[hx];simp;rw[hg] at h0;exact fun e=>h0 e.symm
   obtain ⟨b,b1,b2⟩:=AAQ hs o1.symm o2 hn hz (Nat.le_succ_of_le o4)
   rw[b1,Ae]
   cases b with
   |true=>
    refine .inl ⟨F,⟨o1.symm,o2,hn,o3,hz,o4,b2.1 rfl⟩,rfl,?_⟩
    have:=UF F o2 x (by rw[hx];simp)
    omega
   |false=>
    refine .inr ⟨fun ⟨G,hG⟩=>?_,rfl⟩
    have:=hiff G hG
    rw[ho] at this
    cases this
    have:=b2.2 hG.cns
    cases this
  ·have hpos:0 < l'.length:=List.length_pos_iff.2 hl'
   rw[B5]
   refine .inr ⟨fun ⟨G,hG⟩=>?_,rfl⟩
   have:=hiff G hG
   rw[ho] at this
   cases this
   exact hl' rfl
theorem VW {t:List Aa} (hs:BG t):∃ b,J7 t=some ((b,()),())/\(b=true ↔ ∃ F,VT t F):=by
 unfold J7
 rcases AAO hs with ⟨F,h1,h2,h3⟩ | ⟨h1,h2⟩
 ·rw[h2,Ae]
  exact ⟨_,rfl,fun _=>⟨F,h1⟩,fun _=>qZ10 (show F.srt.getD 0 0 > 0 by omega)⟩
 ·rw[h2,Ae]
  exact ⟨_,rfl,fun h=>(by cases h),fun h=>absurd h h1⟩
theorem AGE (kids:List (List Aa)) (hl:kids.length<=1000):∀ (m i:Nat) (t:List Aa),i+m=kids.length->t.length+(kids.drop i).flatten.length<=100000->
 Am I9 (kids,t,(i:Int),())=some (.exit 0,(kids,t++(kids.drop i).flatten,(kids.length:Int),())):=by
 intro m
 induction m with
 |zero=>
  intro i t hi _
  have e:kids.drop i=[]:=qY7 (by omega)
  rw[e]
  refine Ba ?_ (by simp)
  unfold I9
  simp only
  have:i=kids.length:=by omega
  rw[AC,this]
  simp
 |succ m ih=>
  intro i t hi hb
  have hil:i < kids.length:=by omega
  have hd:=qY6 hil
  have hg:kids.getD i []=kids[i]:=by simp[qZ4,hil]
  rw[hd] at hb ⊢
  simp only[List.flatten_cons,qZ6] at hb
  rw[A8 (y:=(kids,t++kids[i],((i+1:Nat):Int),())) (by
   unfold I9
   simp only
   rw[Aw,Ap,Ad,Ad,qZ0,hg,Ad (by simp only[As];omega),AB]
   rfl)]
  rw[ih (i+1) _ (by omega) (by simp only[qZ6];omega)]
  simp only[List.flatten_cons,qZ1]
theorem AAj {n:Aa} {kids:List (List Aa)} (hl:kids.length<=1000) (hb:kids.flatten.length<=90000):DE n kids=some (((n.1,n.2.1,n.2.2.1,n.2.2.2.1,(kids.length:Int))::kids.flatten,()),()):=by
 unfold DE
 have:=AGE kids hl kids.length 0 [(n.1,n.2.1,n.2.2.1,n.2.2.2.1,(kids.length:Int))] (by omega) (by simp only[List.drop_zero,qY11,List.length_nil];omega)
 rw[show ((0:Nat):Int)=0 from rfl] at this
 rw[this]
 simp only[Ae,Bh,Az,List.drop_zero]
 rfl
theorem AZ.len {VS:List Vr} {ss:List Int} {N d:Nat} {l:List Aa} (h:AZ VS ss N d l):l.length<=N:=by
 obtain ⟨K,hK⟩:=h
 rw[<-hK.flat,Br];exact hK.size
theorem AZ.sub {VS:List Vr} {ss:List Int} {N d:Nat} {l:List Aa} (h:AZ [] ss N d l):AZ VS ss N d l:=by
 obtain ⟨K,hK⟩:=h
 exact ⟨K,hK.flat,hK.wf,hK.srt,hK.nz,hK.sh,hK.size,hK.dep,fun x hx h4=>absurd (hK.vars x hx h4) qY16,hK.noap⟩
theorem M_ {o k:Int} (h:1<=o/\o<=20) (h':o≠3/\o≠4/\o≠5/\o≠16/\o≠17):Bi ((o,0,[],[],k):Aa)=true:=by
 unfold Bi
 simp only[nOp,A5,Bv,A_]
 rw[if_neg (by omega),if_neg (by omega),if_neg (by omega),qZ10 h]
 rfl
theorem DR {VS:List Vr} {ss:List Int} {N d:Nat} {kids:List (List Aa)} {o s:Int} (hK:AZ VS ss N d kids.flatten) (hl:kids.length=ss.length) (h1000:kids.length<=1000) (hN:N<=50000) (h:1<=o/\o<=20) (h':o≠3/\o≠4/\o≠5/\o≠16/\o≠17)
 (hc:AQ o ss.length=true) (hs:AO ((o,0,[],[],(ss.length:Int)):Aa) (kids.flatten.getD 0 Ao).1 ss=s) (hz:s≠0):∃ t,BJ o kids=some ((t,()),())/\AZ VS [s] (N+1) (d+1) t:=by
 refine ⟨(o,0,[],[],(kids.length:Int))::kids.flatten,?_,?_⟩
 ·unfold BJ
  rw[AAj h1000 (by have:=hK.len;omega),Ae]
 ·rw[hl]
  exact hK.node (M_ h h') hc rfl hs hz (by simp[A_]) (fun e=>absurd e h'.2.1) h'.2.2.1
theorem AFQ {d:Int} {P:KV} (hP:P.length<=100) (hs:∀ p∈P,(ti p.1).length<=73/\(ti p.2).length<=73):∀ (m i:Nat) (t:List Aa),i+m=P.length->AZ [] [4] (2+3 * i) (2+i) t->
 ∃ t',Am H5 (AP d P,([]:List Aa),0,t,(i:Int),())=some (.exit 1,(AP d P,([]:List Aa),0,t',(P.length:Int),()))/\AZ [] [4] (2+3 * P.length) (2+P.length) t':=by
 intro m
 induction m with
 |zero=>
  intro i t hi hg
  have:i=P.length:=by omega
  refine ⟨t,Ba ?_ (by simp),by rw[<-this];exact hg⟩
  unfold H5
  simp only
  rw[AC (by rw[CB];omega),this]
 |succ m ih=>
  intro i t hi hg
  have hil:i < P.length:=by omega
  have hp:=hs _ (List.getElem_mem hil)
  have hlen:=hg.len
  have hk:=((hg.app ((IH hp.1).mono (Nat.le_refl _) (show 1<=2+i by omega))).app ((IH hp.2).mono (Nat.le_refl _) (show 1<=2+i by omega)))
  have hfl:[t,[((3:Int),(2:Int),([]:qBs),ti P[i].1,(0:Int))],[((3:Int),(2:Int),([]:qBs),ti P[i].2,(0:Int))]].flatten=t++[((3:Int),(2:Int),([]:qBs),ti P[i].1,(0:Int))]++[((3:Int),(2:Int),([]:qBs),ti P[i].2,(0:Int))]:=by simp
  have hj:=AAj (n:=((19:Int),(0:Int),([]:qBs),([]:qBs),(0:Int))) (kids:=[t,[((3:Int),(2:Int),([]:qBs),ti P[i].1,(0:Int))],[((3:Int),(2:Int),([]:qBs),ti P[i].2,(0:Int))]]) (by simp) (by simp;omega)
  rw[hfl] at hj
  have hn:=hk.node (n:=((19:Int),(0:Int),([]:qBs),([]:qBs),(3:Int))) (s:=4) (M_ (by omega) (by omega)) rfl rfl (by simp[AO,nOp]) (by omega) (by simp[A_]) (fun e=>by simp[nOp] at e) (by simp[nOp])
  obtain ⟨t',h1,h2⟩:=ih (i+1) _ (by omega) (hn.mono (show 2+3 * i+1+1+1<=2+3 * (i+1) by omega) (show 2+i+1<=2+(i+1) by omega))
  refine ⟨t',?_,h2⟩
  rw[A8 (y:=(AP d P,([]:List Aa),0,_,((i+1:Nat):Int),())) (by
   unfold H5
   simp only
   rw[Aw (by rw[CB];omega),AC,Ap,Ad,Ad (by rw[CB];omega),qZ0,E' hil,GZ hil]
   unfold CQ
   rw[Ae,Ap,Ad,Ad (by rw[DG];omega),Ae]
   simp only
   rw[hj,Ae,AB]
   rfl)]
  exact h1
def NJ (v:SV):Prop:=Eo v/\match v with
 |.b _=>True
 |.z n=>(ti n).length<=73
 |.q r=>(Ay r).length<=73
 |.a d P=>(ti d).length<=73/\(∀ p∈P,(ti p.1).length<=73/\(ti p.2).length<=73)/\P.length<=100
def CY:SV->Nat
 |.a _ P=>P.length
 |_=>0
theorem AAZ {v:SV} (h:NJ v):Short 73 (encS v):=by
 obtain ⟨h1,h2⟩:=h
 cases v with
 |b x=>exact ⟨by simp[encS],fun s hs=>by simp[encS] at hs,fun s hs=>by simp[encS] at hs,by simp[encS]⟩
 |z n=>exact ⟨h2,fun s hs=>by simp[encS] at hs,fun s hs=>by simp[encS] at hs,by simp[encS]⟩
 |q r=>exact ⟨h2,fun s hs=>by simp[encS] at hs,fun s hs=>by simp[encS] at hs,by simp[encS]⟩
 |a d P=>
  obtain ⟨a1,a2,a3⟩:=h2
  exact (Sm.short (N:=73) ⟨a1,a2,by omega⟩)
theorem ABM {v:SV} (h:NJ v):∃ t,FA (encS v)=some ((t,0,()),())/\AZ [] [CC v] (2+3 * CY v) (2+CY v) t:=by
 have hsh:=AAZ h
 obtain ⟨h1,h2⟩:=h
 have hval:=R5 (N:=73) (by omega) hsh
 rw[ACJ h1] at hval
 unfold FA
 rw[hval,Ae]
 simp only[qY2,AE]
 cases v with
 |b x=>
  cases x
  ·exact ⟨_,rfl,Tp.mono (by simp[CY]) (by simp[CY])⟩
  ·exact ⟨_,rfl,Pb.mono (by simp[CY]) (by simp[CY])⟩
 |z n=>exact ⟨_,rfl,(IH h2).mono (by simp[CY]) (by simp[CY])⟩
 |q r=>exact ⟨_,rfl,(RZ h2).mono (by simp[CY]) (by simp[CY])⟩
 |a d P=>
  obtain ⟨a1,a2,a3⟩:=h2
  have hk:=(IH (VS:=[]) a1).node (n:=((20:Int),(0:Int),([]:qBs),([]:qBs),(1:Int))) (s:=4) (M_ (by omega) (by omega)) rfl rfl (by simp[AO,nOp]) (by omega) (by simp[A_]) (fun e=>by simp[nOp] at e) (by simp[nOp])
  obtain ⟨t',e1,e2⟩:=AFQ (d:=d) a3 a2 P.length 0 _ (by omega) (hk.mono (by omega) (by omega))
  obtain ⟨F,hF⟩:=e2
  have hvt:=On ⟨fun v h=>absurd h qY16,fun v h=>absurd h qY16⟩ hF (by omega) (by omega)
  obtain ⟨b,b1,b2⟩:=VW (t:=t') fun n hn=>by have:=hF.sh n hn;omega
  have hb:b=true:=b2.2 ⟨F,hvt⟩
  have e:encS (.a d P)=AP d P:=rfl
  rw[e]
  simp only
  rw[Aj,Aj,Aj]
  unfold CQ
  simp only[Ae]
  have hj:=AAj (n:=((20:Int),(0:Int),([]:qBs),([]:qBs),(0:Int))) (kids:=[[((3:Int),(2:Int),([]:qBs),ti d,(0:Int))]]) (by simp) (by simp)
  rw[hj,Ae]
  rw[show ((0:Nat):Int)=0 from rfl] at e1
  have e1':Am H5 (AP d P,([]:List Aa),0,(((20:Int),(0:Int),([]:qBs),([]:qBs),(([[((3:Int),(2:Int),([]:qBs),ti d,(0:Int))]].length:Nat):Int)):Aa)::[[((3:Int),(2:Int),([]:qBs),ti d,(0:Int))]].flatten,0,())=some (.exit 1,(AP d P,([]:List Aa),0,t',(P.length:Int),())):=e1
  rw[e1']
  simp only[Ae,Bh,Az]
  rw[b1,Ae,hb]
  exact ⟨t',rfl,⟨F,hF⟩⟩
theorem AF8 {c:List Int×Int} (hc:CI c) {s:Int} (hs:1<=s/\s<=4):∃ v c',F_ c s=some ((encS v,()),(c',()))/\CI c'/\CC v=s/\NJ v/\CY v<=1:=by
 have hf:∀ r:Int,-10<=r/\r<=10->Da r=some ((ti r,()),())/\(ti r).length<=73:=fun r h=>by
  refine ⟨Gl ⟨by omega,by omega⟩,?_⟩
  have:=Em (r:Rat)
  have:=G0 (n:=r) (by omega)
  unfold ti;omega
 unfold F_
 by_cases h1:s=1
 ·obtain ⟨r,c',n1,n2,n3,n4⟩:=BE hc (n:=2) (by omega)
  rw[Av h1,n1,Ae,h1]
  exact ⟨.b (r==1),c',rfl,n2,rfl,⟨trivial,trivial⟩,by simp[CY]⟩
 rw[Aj h1]
 by_cases h4:s=4
 ·obtain ⟨r1,c1,a1,a2,a3,a4⟩:=BE hc (n:=3) (by omega)
  obtain ⟨r2,c2,b1,b2,b3,b4⟩:=BE a2 (n:=3) (by omega)
  obtain ⟨r3,c3,d1,d2,d3,d4⟩:=BE b2 (n:=3) (by omega)
  rw[Av h4,a1,Ae,(hf r1 (by omega)).1,Ae,b1,Ae,(hf r2 (by omega)).1,Ae,d1,Ae,(hf r3 (by omega)).1,Ae,h4]
  have hst:=ADS (N:=73) (by omega) (d:=r1) (i:=r2) (n:=r3) (M0 r1) (PT (hf r1 (by omega)).2) (hf r2 (by omega)).2 (hf r3 (by omega)).2
  have e:(AP r1 []:Bp)=((4:Int),false,ti r1,([]:List qBs),([]:List qBs)):=rfl
  rw[e] at hst
  simp only
  rw[hst,Ae]
  have hlen:=Qr (d:=r1) (i:=r2) (n:=r3) (P:=[]) List.Pairwise.nil
  have hsm:=AEQ (N:=73) (d:=r1) (i:=r2) (n:=r3) (P:=[]) List.Pairwise.nil (PT (hf r1 (by omega)).2) (hf r2 (by omega)).2 (hf r3 (by omega)).2 (by simp)
  refine ⟨.a r1 (C9 r1 [] r2 r3),c3,rfl,d2,rfl,⟨Td (M0 r1) r2 r3,hsm.num,hsm.els,?_⟩,?_⟩
  ·simp at hlen;omega
  ·simpa [CY] using hlen
 ·rw[Aj h4]
  obtain ⟨r,c',n1,n2,n3,n4⟩:=BE hc (n:=6) (by omega)
  rw[n1,Ae]
  simp only
  rw[AB,(hf (r - 2) (by omega)).1,Ae]
  by_cases h2:s=2
  ·rw[h2]
   exact ⟨.z (r - 2),c',rfl,n2,rfl,⟨trivial,(hf (r - 2) (by omega)).2⟩,by simp[CY]⟩
  ·have h3:s=3:=by omega
   rw[h3]
   exact ⟨.q ((r - 2:Int):Rat),c',rfl,n2,rfl,⟨trivial,(hf (r - 2) (by omega)).2⟩,by simp[CY]⟩
def Cq (VS:List Vr) (c:List Int×Int) (s:Int) (N d:Nat) (r:Option (((List Aa)×Unit)×(Ac×Unit))):Prop:=∃ t c',r=some ((t,()),(c',()))/\CI c'/\AZ VS [s] N d t
theorem Tx {VS:List Vr} {c:List Int×Int} (hc:CI c) {s:Int} (hs:1<=s/\s<=4):Cq VS c s 5 3 ((F_ c s).bind fun r2=>(FA r2.1.1).bind fun r3=>some ((r3.1.1,()),r2.2.1,())):=by
 obtain ⟨v,c',h1,h2,h3,h4,h5⟩:=AF8 hc hs
 obtain ⟨t,t1,t2⟩:=ABM h4
 rw[h1,Ae,t1,Ae]
 rw[h3] at t2
 exact ⟨t,c',rfl,h2,(t2.mono (by omega) (by omega)).sub⟩
theorem X9 {c:List Int×Int} {VS:List Vr} {s:Int} (hl:VS.length<=1000):∀ (m i:Nat) (l:List Vr),i+m=VS.length->l.length<=i->
 Am HK (c,s,VS,l,(i:Int),())=some (.exit 0,(c,s,VS,l++(VS.drop i).filter (fun v=>decide (v.2=s)),(VS.length:Int),())):=by
 intro m
 induction m with
 |zero=>
  intro i l hi _
  have e:VS.drop i=[]:=qY7 (by omega)
  rw[e]
  refine Ba ?_ (by simp)
  unfold HK
  simp only
  have:i=VS.length:=by omega
  rw[AC,this]
  simp
 |succ m ih=>
  intro i l hi hb
  have hil:i < VS.length:=by omega
  have hd:=qY6 hil
  have hg:VS.getD i BT=VS[i]:=by simp[qZ4,hil]
  rw[hd]
  generalize VS[i]=v at hg hd
  by_cases h:v.2=s
  ·rw[A8 (y:=(c,s,VS,l++[v],((i+1:Nat):Int),())) (by
    unfold HK
    simp only
    rw[Aw,Ap,Ad,Ad,qZ0,hg,Av h,Ap,Ad,Ad,Ad (by simp[As];omega),AB]
    rfl)]
   rw[ih (i+1) _ (by omega) (by simp;omega),List.filter_cons,if_pos (qZ10 h)]
   simp
  ·rw[A8 (y:=(c,s,VS,l,((i+1:Nat):Int),())) (by
    unfold HK
    simp only
    rw[Aw,Ap,Ad,Ad,qZ0,hg,Aj h,AB]
    rfl)]
   rw[ih (i+1) _ (by omega) (by omega),List.filter_cons,if_neg (fun e=>h (of_decide_eq_true e))]
theorem Ma {VS:List Vr} (hV:VSok VS) (hl:VS.length<=1000) {c:List Int×Int} (hc:CI c) {s:Int} (hs:1<=s/\s<=4):Cq VS c s 5 3 (Dh c s VS):=by
 unfold Dh
 have key:=X9 (c:=c) (s:=s) hl VS.length 0 [] (by omega) (by simp)
 rw[show ((0:Nat):Int)=0 from rfl] at key
 rw[key]
 simp only[Ae,Bh,Az,qY15,List.drop_zero]
 have hmem:∀ v∈VS.filter (fun v=>decide (v.2=s)),v∈VS/\v.2=s:=fun v hv=>by simpa using hv
 have hfl:(VS.filter (fun v=>decide (v.2=s))).length<=VS.length:=List.length_filter_le _ _
 generalize VS.filter (fun v=>decide (v.2=s))=L at hmem hfl
 by_cases h0:L.length=0
 ·rw[Av]
  exact Tx hc hs
 ·rw[Aj]
  obtain ⟨r,c',n1,n2,n3,n4⟩:=BE hc (n:=(L.length:Int)) (by omega)
  obtain ⟨k,rfl⟩:∃ k:Nat,r=k:=⟨r.toNat,by omega⟩
  have hk:k < L.length:=by omega
  have hg:L.getD k BT=L[k]:=by simp[qZ4,hk]
  rw[n1,Ae,Ap,Ad,Ad]
  simp only[qZ0]
  rw[Ad hk,hg]
  obtain ⟨m1,m2⟩:=hmem _ (List.getElem_mem hk)
  have hm:(L[k].1,s)∈VS:=by rw[<-m2];exact m1
  exact ⟨_,c',rfl,n2,(WE hV hm).mono (by omega) (by omega)⟩
abbrev F':=Ac->Int->Int->List Vr->Option (((List Aa)×Unit)×(Ac×Unit))
abbrev Jj:=Ac->Int->List Vr->Option (((List Aa)×Unit)×(Ac×Unit))
def TOk (VS:List Vr) (T:F') (d N D:Nat):Prop:=∀ c s,CI c->1<=s/\s<=4->Cq VS c s N D (T c s (d:Int) VS)
def MV (VS:List Vr) (T:F') (d N D:Nat):Prop:=∀ c s,CI c->s=2\/s=3->Cq VS c s N D (T c s (d:Int) VS)
def DO (VS:List Vr) (F:Jj) (d N D:Nat):Prop:=∀ c,CI c->Cq VS c 1 N D (F c (d:Int) VS)
theorem Cq.mono {VS:List Vr} {c:List Int×Int} {s:Int} {N d M e:Nat} {r:Option (((List Aa)×Unit)×(Ac×Unit))} (h:Cq VS c s N d r) (hN:N<=M) (hd:d<=e):Cq VS c s M e r:=by
 obtain ⟨t,c',h1,h2,h3⟩:=h
 exact ⟨t,c',h1,h2,h3.mono hN hd⟩
theorem Cq.eta {VS:List Vr} {c:List Int×Int} {s:Int} {N d:Nat} {r:Option (((List Aa)×Unit)×(Ac×Unit))} (h:Cq VS c s N d r):Cq VS c s N d (r.bind fun r2=>some ((r2.1.1,()),r2.2.1,())):=by
 obtain ⟨t,c',h1,h2,h3⟩:=h
 rw[h1]
 exact ⟨t,c',rfl,h2,h3⟩
section
variable {VS:List Vr} (T:F') (F:Jj) (I:F') (Ar:F') (At:Jj)
theorem BI (a:List Aa):[a].flatten=a:=by simp
theorem BS (a b:List Aa):[a,b].flatten=a++b:=by simp
theorem OX (a b c:List Aa):[a,b,c].flatten=a++b++c:=by simp
theorem Q' {c:List Int×Int} (hc:CI c) {s:Int} (hs:1<=s/\s<=4) (hV:VSok VS) (hl:VS.length<=1000):Cq VS c s 5 3 ((A2 c 3).bind fun r1=>
 cond (r1.1.1==(0:Int))
  ((F_ r1.2.1 s).bind fun r2=>
  (FA r2.1.1).bind fun r3=>
  some ((r3.1.1,()),r2.2.1,()))
  ((Dh r1.2.1 s VS).bind fun r4=>
  some ((r4.1.1,()),r4.2.1,()))):=by
 obtain ⟨r,c',n1,n2,n3,n4⟩:=BE hc (n:=3) (by omega)
 rw[n1,Ae]
 by_cases h:r=0
 ·rw[Av h];exact Tx n2 hs
 ·rw[Aj h];exact (Ma hV hl n2 hs).eta
theorem T0 (hV:VSok VS) (hl:VS.length<=1000):TOk VS (Hv T F I Ar At) 0 5 3:=by
 intro c s hc hs
 unfold Hv
 rw[Aw]
 exact Q' hc hs hV hl
theorem TL (hV:VSok VS) (hl:VS.length<=1000) {d N D:Nat} (hN:N<=10000) (hT:TOk VS T d N D):DO VS (Km T F I Ar At) d (max 5 (1+2 * N)) (max 3 (D+1)):=by
 intro c hc
 unfold Km
 obtain ⟨r,c1,n1,n2,n3,n4⟩:=BE hc (n:=5) (by omega)
 rw[n1,Ae,Ap,Ad (by simpa using n3),Ad (by simp;omega)]
 have hr:r=0\/r=1\/r=2\/r=3\/r=4:=by omega
 have hg:∃ s:Int,([2,2,3,4,1]:List Int).getD r.toNat 0=s/\1<=s/\s<=4:=by
  rcases hr with rfl | rfl | rfl | rfl | rfl
  ·exact ⟨2,rfl,by omega,by omega⟩
  ·exact ⟨2,rfl,by omega,by omega⟩
  ·exact ⟨3,rfl,by omega,by omega⟩
  ·exact ⟨4,rfl,by omega,by omega⟩
  ·exact ⟨1,rfl,by omega,by omega⟩
 obtain ⟨s,hgs,hs⟩:=hg
 simp only
 rw[hgs]
 by_cases h1:s=1
 ·rw[Av h1]
  obtain ⟨r2,c2,m1,m2,m3,m4⟩:=BE n2 (n:=3) (by omega)
  rw[m1,Ae]
  by_cases h0:r2=0
  ·rw[Av h0]
   obtain ⟨r3,c3,k1,k2,k3,k4⟩:=BE m2 (n:=2) (by omega)
   simp only
   rw[k1,Ae]
   simp only
   unfold J9
   cases (r3==1)
   ·exact ⟨_,c3,rfl,k2,Tp.mono (by omega) (by omega)⟩
   ·exact ⟨_,c3,rfl,k2,Pb.mono (by omega) (by omega)⟩
  ·rw[Aj h0,h1]
   exact ((Ma hV hl m2 (by omega)).eta).mono (by omega) (by omega)
 rw[Aj h1]
 by_cases h4:s=4
 ·rw[BX h4]
  obtain ⟨t1,c2,a1,a2,a3⟩:=hT _ s n2 hs
  obtain ⟨t2,c3,b1,b2,b3⟩:=hT _ s a2 hs
  rw[a1,Ae,b1,Ae]
  obtain ⟨t,o1,o2⟩:=DR (o:=11) (s:=1) (kids:=[t1,t2]) (by rw[BS];exact a3.app b3) rfl (by simp) (by omega) (by omega) (by omega) rfl (by simp[AO,nOp]) (by omega)
  rw[o1,Ae]
  exact ⟨t,c3,rfl,b2,o2.mono (by omega) (by omega)⟩
 ·rw[B5 h4]
  obtain ⟨r2,c2,m1,m2,m3,m4⟩:=BE n2 (n:=3) (by omega)
  obtain ⟨t1,c3,a1,a2,a3⟩:=hT _ s m2 hs
  obtain ⟨t2,c4,b1,b2,b3⟩:=hT _ s a2 hs
  rw[m1,Ae,a1,Ae,b1,Ae]
  simp only
  rw[AB]
  have hs':s=2\/s=3:=by omega
  have hsm:AO (((11:Int)+r2,0,[],[],(([s]++[s]:List Int).length:Int)):Aa) ((t1++t2).getD 0 Ao).1 ([s]++[s])=1:=by
   have:r2=0\/r2=1\/r2=2:=by omega
   rcases this with rfl | rfl | rfl
   ·simp[AO,nOp]
   ·simp[AO,nOp,hs']
   ·simp[AO,nOp,hs']
  have hcc:AQ ((11:Int)+r2) ([s]++[s]:List Int).length=true:=by
   have:r2=0\/r2=1\/r2=2:=by omega
   rcases this with rfl | rfl | rfl<;>rfl
  obtain ⟨t,o1,o2⟩:=DR (o:=(11:Int)+r2) (s:=1) (kids:=[t1,t2]) (ss:=[s]++[s]) (by rw[BS];exact a3.app b3) rfl (by simp) (by omega) (by omega) (by omega) hcc (by rw[BS];exact hsm) (by omega)
  rw[o1,Ae]
  exact ⟨t,c4,rfl,b2,o2.mono (by omega) (by omega)⟩
theorem YJ {d N D:Nat} (hd:d<=1000) (hN:N<=10000) (hT:TOk VS T d N D) (hF:DO VS F d N D):TOk VS (J_ T F I Ar At) (d+1) (1+3 * N) (D+1):=by
 intro c s hc hs
 unfold J_
 have hw:qI (((d+1:Nat):Int) - 1)=(d:Int):=by rw[AB];omega
 obtain ⟨t1,c1,a1,a2,a3⟩:=hF _ hc
 obtain ⟨t2,c2,b1,b2,b3⟩:=hT _ s a2 hs
 obtain ⟨t3,c3,e1,e2,e3⟩:=hT _ s b2 hs
 rw[hw,a1,Ae,b1,Ae,e1,Ae]
 obtain ⟨t,o1,o2⟩:=DR (o:=10) (s:=s) (kids:=[t1,t2,t3]) (ss:=[1]++[s]++[s]) (by rw[OX];exact (a3.app b3).app e3) rfl (by simp) (by omega) (by omega) (by omega) rfl (by simp[AO,nOp]) (by omega)
 rw[o1,Ae]
 exact ⟨t,c3,rfl,e2,o2.mono (by omega) (by omega)⟩
theorem QB (n:Nat) (s:Int):List.replicate n s++[s]=List.replicate (n+1) s:=by rw[List.replicate_succ']
theorem ADt {d N D:Nat} (hd:d<=1000) (hN:N<=10000) (hT:TOk VS T d N D) {s:Int} (hs:1<=s/\s<=4):∀ (m k:Nat) (c:List Int×Int) (l:List (List Aa)),CI c->k+m<=5->l.length=k->AZ VS (List.replicate k s) (k * N) D l.flatten->
 ∃ c' l',Am (Jy T F I Ar At) (c,s,((d+1:Nat):Int),VS,l,(m:Int),())=some (.exit 1,(c',s,((d+1:Nat):Int),VS,l',0,()))/\CI c'/\l'.length=k+m/\AZ VS (List.replicate (k+m) s) ((k+m) * N) D l'.flatten:=by
 have hw:qI (((d+1:Nat):Int) - 1)=(d:Int):=by rw[AB];omega
 intro m
 induction m with
 |zero=>
  intro k c l hc _ hlk hg
  exact ⟨c,l,Ba (by unfold Jy;simp only;rw[AC];rfl) (by simp),hc,hlk,hg⟩
 |succ m ih=>
  intro k c l hc hb hlk hg
  obtain ⟨t1,c1,a1,a2,a3⟩:=hT _ s hc hs
  have hg':AZ VS (List.replicate (k+1) s) ((k+1) * N) D (l++[t1]).flatten:=by
   have:=hg.app a3
   rw[QB] at this
   rw[List.flatten_append,BI,Nat.add_mul,Nat.one_mul]
   exact this
  obtain ⟨c',l',e1,e2,e3,e4⟩:=ih (k+1) c1 (l++[t1]) a2 (by omega) (by simp[hlk]) hg'
  refine ⟨c',l',?_,e2,by omega,?_⟩
  ·rw[A8 (y:=(c1,s,((d+1:Nat):Int),VS,l++[t1],(m:Int),())) (by
    unfold Jy
    simp only
    rw[Aw,hw,a1,Ae,Ad (by simp[As];omega),AB]
    have e:((m+1:Nat):Int) - 1=(m:Int):=by omega
    rw[e])]
   exact e1
  ·have e:k+(m+1)=k+1+m:=by omega
   rw[e];exact e4
theorem Wc {d N D:Nat} (hd:d<=1000) (hN:N<=10000) (hF:DO VS F d N D):∀ (m k:Nat) (c:List Int×Int) (l:List (List Aa)),CI c->k+m<=5->l.length=k->AZ VS (List.replicate k 1) (k * N) D l.flatten->
 ∃ c' l',Am (E3 T F I Ar At) (c,((d+1:Nat):Int),VS,l,(m:Int),())=some (.exit 1,(c',((d+1:Nat):Int),VS,l',0,()))/\CI c'/\l'.length=k+m/\AZ VS (List.replicate (k+m) 1) ((k+m) * N) D l'.flatten:=by
 have hw:qI (((d+1:Nat):Int) - 1)=(d:Int):=by rw[AB];omega
 intro m
 induction m with
 |zero=>
  intro k c l hc _ hlk hg
  exact ⟨c,l,Ba (by unfold E3;simp only;rw[AC];rfl) (by simp),hc,hlk,hg⟩
 |succ m ih=>
  intro k c l hc hb hlk hg
  obtain ⟨t1,c1,a1,a2,a3⟩:=hF _ hc
  have hg':AZ VS (List.replicate (k+1) 1) ((k+1) * N) D (l++[t1]).flatten:=by
   have:=hg.app a3
   rw[QB] at this
   rw[List.flatten_append,BI,Nat.add_mul,Nat.one_mul]
   exact this
  obtain ⟨c',l',e1,e2,e3,e4⟩:=ih (k+1) c1 (l++[t1]) a2 (by omega) (by simp[hlk]) hg'
  refine ⟨c',l',?_,e2,by omega,?_⟩
  ·rw[A8 (y:=(c1,((d+1:Nat):Int),VS,l++[t1],(m:Int),())) (by
    unfold E3
    simp only
    rw[Aw,hw,a1,Ae,Ad (by simp[As];omega),AB]
    have e:((m+1:Nat):Int) - 1=(m:Int):=by omega
    rw[e])]
   exact e1
  ·have e:k+(m+1)=k+1+m:=by omega
   rw[e];exact e4
theorem AAB {c:List Int×Int} (hc:CI c) {s:Int} (hs:s=2\/s=3):∃ a c',Ef c s=some ((a,()),(c',()))/\CI c'/\CQ s a=some (([((3:Int),s,([]:qBs),a,(0:Int))],()),())/\AZ VS [s] 1 1 [((3:Int),s,([]:qBs),a,(0:Int))]:=by
 unfold Ef
 rcases hs with rfl | rfl
 ·obtain ⟨z,c',h1,h2,h3⟩:=AAg hc
  rw[Av rfl,h1,Ae]
  exact ⟨ti z,c',rfl,h2,rfl,IH (by omega)⟩
 ·obtain ⟨q,c',h1,h2,h3⟩:=ACz hc
  have:=Em q
  rw[Aj,h1,Ae]
  exact ⟨Ay q,c',rfl,h2,rfl,RZ (by omega)⟩
end
section
variable {VS:List Vr} (T:F') (F:Jj) (I:F') (Ar:F') (At:Jj)
theorem X3 {VS:List Vr} {N D:Nat} {t:List Aa} (h:AZ VS [2] N D t) {o r:Int} (ho:o=16\/o=17) (hr:0 < r/\r < 1000):AZ VS [2] (N+1) (D+1) ((o,0,[],ti r,1)::t):=by
 have hsg:E0 (ti r)=1:=by
  unfold E0 ti
  rw[Df]
  simp only[Rat.num_intCast]
  exact Int.sign_eq_one_of_pos hr.1
 have hl:(ti r).length<=73:=by
  have:=Em (r:Rat)
  have:=G0 (n:=r) (by omega)
  unfold ti;omega
 refine h.node (n:=(o,0,[],ti r,1)) ?_ ?_ rfl ?_ (by omega) hl (fun e=>?_) ?_
 ·unfold Bi
  simp only[nOp,A5,Bv,A_]
  rw[if_neg (by omega),if_neg (by omega),if_pos ho,FK,hsg]
  rfl
 ·rcases ho with rfl | rfl<;>rfl
 ·rcases ho with rfl | rfl<;>simp[AO,nOp]
 ·simp only[nOp] at e;omega
 ·simp only[nOp];omega
theorem ADd (hV:VSok VS) (hl:VS.length<=1000) {d N D:Nat} (hd:d<=1000) (hN:5<=N/\N<=10000) (hD:3<=D) (hT:TOk VS T d N D) (hI:TOk VS I (d+1) (1+3 * N) (D+1)):MV VS (Lz T F I Ar At) (d+1) (1+3 * N) (D+1):=by
 intro c s hc hs
 have hs':1<=s/\s<=4:=by omega
 have hw:qI (((d+1:Nat):Int) - 1)=(d:Int):=by rw[AB];omega
 have hvar:∀ c,CI c->Cq VS c s (1+3 * N) (D+1) ((Dh c s VS).bind fun r=>some ((r.1.1,()),r.2.1,())):=fun c hc=>((Ma hV hl hc hs').eta).mono (by omega) (by omega)
 have hnum:∀ c,CI c->Cq VS c s (1+3 * N) (D+1) ((Ef c s).bind fun r=>(CQ s r.1.1).bind fun r'=>some ((r'.1.1,()),r.2.1,())):=fun c hc=>by
  obtain ⟨a,c',h1,h2,h3,h4⟩:=AAB hc hs (VS:=VS)
  rw[h1,Ae,h3,Ae]
  exact ⟨_,c',rfl,h2,h4.mono (by omega) (by omega)⟩
 unfold Lz
 obtain ⟨r,c1,n1,n2,n3,n4⟩:=BE hc (n:=10) (by omega)
 rw[n1,Ae]
 simp only[hw]
 by_cases h3:r < 3
 ·rw[Aw h3]
  obtain ⟨t1,c2,a1,a2,a3⟩:=hT _ s n2 hs'
  obtain ⟨r2,c3,m1,m2,m3,m4⟩:=BE a2 (n:=3) (by omega)
  obtain ⟨m,rfl⟩:∃ m:Nat,r2=m:=⟨r2.toNat,by omega⟩
  obtain ⟨c4,l',e1,e2,e3,e4⟩:=ADt T F I Ar At hd hN.2 hT hs' m 1 c3 [t1] m2 (by omega) rfl (by rw[BI,Nat.one_mul];exact a3)
  rw[a1,Ae,m1,Ae]
  simp only
  rw[e1]
  simp only[Ae,Bh,Az]
  have hb:(1+m) * N<=3 * N:=Nat.mul_le_mul_right N (by omega)
  obtain ⟨t,o1,o2⟩:=DR (o:=14) (s:=s) (kids:=l') e4 (by rw[e3,List.length_replicate]) (by omega) (by omega) (by omega) (by omega) (by rw[List.length_replicate];exact qZ10 (show (1:Int)<=((1+m:Nat):Int) by omega)) (by
   have e:(List.replicate (1+m) s).getD 0 0=s:=by rw[Nat.add_comm];simp[List.replicate_succ]
   have hal:∀ x∈List.replicate (1+m) s,x=s:=fun x hx=>(List.mem_replicate.1 hx).2
   unfold AO
   simp only[nOp]
   rw[if_neg (by omega),if_neg (by omega),if_neg (by omega),if_neg (by omega),if_neg (by omega),if_pos trivial,e,if_pos ⟨hs,hal⟩]) (by omega)
  rw[o1,Ae]
  exact ⟨t,c4,rfl,e2,o2.mono (by omega) (by omega)⟩
 rw[AC h3]
 by_cases h5:r < 5
 ·rw[Aw h5]
  obtain ⟨a,c2,k1,k2,k3,k4⟩:=AAB n2 hs (VS:=VS)
  obtain ⟨t1,c3,a1,a2,a3⟩:=hT _ s k2 hs'
  rw[k1,Ae,k3,Ae,a1,Ae]
  obtain ⟨t,o1,o2⟩:=DR (o:=15) (s:=s) (kids:=[[((3:Int),s,([]:qBs),a,(0:Int))],t1]) (ss:=[s]++[s]) (by rw[BS];exact (k4.mono (Nat.le_refl _) (show 1<=D by omega)).app a3) rfl (by simp) (by omega) (by omega) (by omega) rfl (by simp[AO,nOp,hs]) (by omega)
  rw[o1,Ae]
  exact ⟨t,c3,rfl,a2,o2.mono (by omega) (by omega)⟩
 rw[AC h5]
 by_cases h5':r=5
 ·rw[Av h5']
  exact (hI _ s n2 hs').eta
 rw[Aj h5']
 by_cases h6:r=6
 ·rw[Av h6]
  by_cases h2:s=2
  ·rw[Av h2]
   obtain ⟨r2,c2,m1,m2,m3,m4⟩:=BE n2 (n:=2) (by omega)
   obtain ⟨r3,c3,k1,k2,k3,k4⟩:=BE m2 (n:=5) (by omega)
   obtain ⟨t1,c4,a1,a2,a3⟩:=hT _ s k2 hs'
   rw[m1,Ae]
   simp only
   rw[k1,Ae]
   simp only
   rw[AB (x:=1+r3) (by omega),AB (x:=16+r2) (by omega),Gl (show Du (1+r3) from ⟨by omega,by omega⟩),Ae,a1,Ae]
   have hj:=AAj (n:=((16:Int)+r2,(0:Int),([]:qBs),Ay ((1+r3:Int):Rat),(0:Int))) (kids:=[t1]) (by simp) (by rw[BI];have:=a3.len;omega)
   rw[BI] at hj
   simp only
   rw[hj,Ae]
   rw[h2] at a3 ⊢
   exact ⟨_,c4,rfl,a2,(X3 a3 (o:=16+r2) (r:=1+r3) (by omega) (by omega)).mono (by omega) (by omega)⟩
  ·rw[Aj h2,Aj,Aj]
   exact hvar _ n2
 rw[Aj h6]
 by_cases h7:r=7
 ·rw[Av h7]
  by_cases h2:s=2
  ·rw[Av h2]
   obtain ⟨t1,c2,a1,a2,a3⟩:=hT _ 4 n2 (by omega)
   obtain ⟨t2,c3,b1,b2,b3⟩:=hT _ s a2 hs'
   rw[a1,Ae,b1,Ae]
   rw[h2] at b3 ⊢
   obtain ⟨t,o1,o2⟩:=DR (o:=18) (s:=2) (kids:=[t1,t2]) (ss:=[4]++[2]) (by rw[BS];exact a3.app b3) rfl (by simp) (by omega) (by omega) (by omega) rfl (by simp[AO,nOp]) (by omega)
   rw[o1,Ae]
   exact ⟨t,c3,rfl,b2,o2.mono (by omega) (by omega)⟩
  ·rw[Aj h2,Aj]
   exact hvar _ n2
 rw[Aj h7]
 by_cases h8:r=8
 ·rw[Av h8]
  exact hnum _ n2
 ·rw[Aj h8]
  exact hvar _ n2
theorem O' (c:List Int×Int):Kr c=some ((decide (c.2 < (c.1.length:Int)),()),(c,())):=rfl
theorem ADO {d N D:Nat} (hd:d<=1000) (hN:5<=N/\N<=10000) (hD:3<=D) (hF:DO VS F d N D) (hI:TOk VS I (d+1) (1+3 * N) (D+1)) (hA0:DO VS At 0 11 4) (hA:DO VS At d (1+3 * N) (D+1)):DO VS (HA T F I Ar At) (d+1) (1+3 * N) (D+1):=by
 intro c hc
 have hw:qI (((d+1:Nat):Int) - 1)=(d:Int):=by rw[AB];omega
 unfold HA
 rw[AC,O',Ae]
 by_cases hlf:¬ c.2 < (c.1.length:Int)
 ·rw[qZ9 hlf]
  simp only[qY1,Az]
  exact ((hA0 _ hc).eta).mono (by omega) (by omega)
 rw[qZ10 (Decidable.not_not.1 hlf)]
 simp only[qY2,AE]
 obtain ⟨r,c1,n1,n2,n3,n4⟩:=BE hc (n:=12) (by omega)
 rw[n1,Ae]
 simp only[hw]
 have hnot:Cq VS c 1 (1+3 * N) (D+1) ((F c1 (d:Int) VS).bind fun r5=>(BJ 6 ([r5.1.1]:List (List Aa))).bind fun r6=>some ((r6.1.1,()),r5.2.1,())):=by
  obtain ⟨t1,c2,a1,a2,a3⟩:=hF _ n2
  rw[a1,Ae]
  obtain ⟨t,o1,o2⟩:=DR (o:=6) (s:=1) (kids:=[t1]) (ss:=[1]) (by rw[BI];exact a3) rfl (by simp) (by omega) (by omega) (by omega) rfl (by simp[AO,nOp]) (by omega)
  rw[o1,Ae]
  exact ⟨t,c2,rfl,a2,o2.mono (by omega) (by omega)⟩
 have htwo:∀ o:Int,o=9\/o=11->Cq VS c 1 (1+3 * N) (D+1) ((F c1 (d:Int) VS).bind fun r5=>(F r5.2.1 (d:Int) VS).bind fun r6=>(BJ o ([r5.1.1,r6.1.1]:List (List Aa))).bind fun r7=>some ((r7.1.1,()),r6.2.1,())):=by
  intro o ho
  obtain ⟨t1,c2,a1,a2,a3⟩:=hF _ n2
  obtain ⟨t2,c3,b1,b2,b3⟩:=hF _ a2
  rw[a1,Ae,b1,Ae]
  obtain ⟨t,o1,o2⟩:=DR (o:=o) (s:=1) (kids:=[t1,t2]) (ss:=[1]++[1]) (by rw[BS];exact a3.app b3) rfl (by simp) (by omega) (by omega) (by omega) (by rcases ho with rfl | rfl<;>rfl) (by rcases ho with rfl | rfl<;>simp[AO,nOp]) (by omega)
  rw[o1,Ae]
  exact ⟨t,c3,rfl,b2,o2.mono (by omega) (by omega)⟩
 have hand:Cq VS c 1 (1+3 * N) (D+1) ((A2 c1 4).bind fun r9=>(Am (E3 T F I Ar At) (r9.2.1,((d+1:Nat):Int),VS,([]:List (List Aa)),r9.1.1,())).bind fun y10=>
  cond (Ex.same y10.1 (Ex.exit 1)) ((A2 y10.2.1 2).bind fun r11=>(BJ (qI ((7:Int)+r11.1.1)) y10.2.2.2.2.1).bind fun r12=>some ((r12.1.1,()),r11.2.1,())) none):=by
  obtain ⟨r2,c2,m1,m2,m3,m4⟩:=BE n2 (n:=4) (by omega)
  obtain ⟨m,rfl⟩:∃ m:Nat,r2=m:=⟨r2.toNat,by omega⟩
  obtain ⟨c3,l',e1,e2,e3,e4⟩:=Wc T F I Ar At hd hN.2 hF m 0 c2 [] m2 (by omega) rfl (by rw[Nat.zero_mul];exact (AZ.nil VS).mono (Nat.le_refl _) (Nat.zero_le _))
  obtain ⟨r3,c4,k1,k2,k3,k4⟩:=BE e2 (n:=2) (by omega)
  rw[m1,Ae]
  simp only
  rw[e1]
  simp only[Ae,Bh,Az]
  rw[k1,Ae]
  simp only
  rw[AB]
  have hb:(0+m) * N<=3 * N:=Nat.mul_le_mul_right N (by omega)
  have hal:∀ x∈List.replicate (0+m) (1:Int),x=1:=fun x hx=>(List.mem_replicate.1 hx).2
  obtain ⟨t,o1,o2⟩:=DR (o:=7+r3) (s:=1) (kids:=l') e4 (by rw[e3,List.length_replicate]) (by omega) (by omega) (by omega) (by omega) (by
   have:r3=0\/r3=1:=by omega
   rw[List.length_replicate]
   rcases this with rfl | rfl
   ·exact qZ10 (show (0:Int)<=((0+m:Nat):Int) by omega)
   ·exact qZ10 (show (0:Int)<=((0+m:Nat):Int) by omega)) (by
   unfold AO
   simp only[nOp]
   rw[if_neg (by omega),if_pos (by omega),if_pos hal]) (by omega)
  rw[o1,Ae]
  exact ⟨t,c4,rfl,k2,o2.mono (by omega) (by omega)⟩
 by_cases h0:r=0;· rw[Av h0];exact hnot
 rw[Aj h0]
 by_cases h1:r=1;· rw[Av h1];exact hnot
 rw[Aj h1]
 by_cases h2:r=2;· rw[Av h2];exact hand
 rw[Aj h2]
 by_cases h3:r=3;· rw[Av h3];exact hand
 rw[Aj h3]
 by_cases h4:r=4;· rw[Av h4];exact hand
 rw[Aj h4]
 by_cases h5:r=5;· rw[Av h5];exact hand
 rw[Aj h5]
 by_cases h6:r=6;· rw[Av h6];exact htwo 9 (.inl rfl)
 rw[Aj h6]
 by_cases h7:r=7;· rw[Av h7];exact (hI _ 1 n2 (by omega)).eta
 rw[Aj h7]
 by_cases h8:r=8;· rw[Av h8];exact htwo 11 (.inr rfl)
 rw[Aj h8]
 exact (hA _ n2).eta
theorem ADc (hV:VSok VS) (hl:VS.length<=1000) {d N D:Nat} (hd:d<=1000) (hN:5<=N/\N<=10000) (hD:3<=D) (hT:TOk VS T d N D) (hF:DO VS F (d+1) (1+3 * N) (D+1)) (hI:TOk VS I (d+1) (1+3 * N) (D+1)) (hA:MV VS Ar (d+1) (1+3 * N) (D+1)):TOk VS (Hv T F I Ar At) (d+1) (1+3 * N) (D+1):=by
 intro c s hc hs
 have hw:qI (((d+1:Nat):Int) - 1)=(d:Int):=by rw[AB];omega
 unfold Hv
 rw[AC,O',Ae]
 by_cases hlf:¬ c.2 < (c.1.length:Int)
 ·rw[qZ9 hlf]
  simp only[qY1,Az]
  exact (Q' hc hs hV hl).mono (by omega) (by omega)
 rw[qZ10 (Decidable.not_not.1 hlf)]
 simp only[qY2,AE]
 by_cases h1:s=1
 ·rw[Av h1,h1];exact (hF _ hc).eta
 rw[Aj h1]
 by_cases h4:s=4
 ·rw[Av h4]
  obtain ⟨r,c1,n1,n2,n3,n4⟩:=BE hc (n:=5) (by omega)
  rw[n1,Ae]
  simp only[hw]
  have hst:Cq VS c s (1+3 * N) (D+1) ((T c1 4 (d:Int) VS).bind fun r14=>(T r14.2.1 2 (d:Int) VS).bind fun r15=>(T r15.2.1 2 (d:Int) VS).bind fun r16=>(BJ 19 ([r14.1.1,r15.1.1,r16.1.1]:List (List Aa))).bind fun r17=>some ((r17.1.1,()),r16.2.1,())):=by
   obtain ⟨t1,c2,a1,a2,a3⟩:=hT _ 4 n2 (by omega)
   obtain ⟨t2,c3,b1,b2,b3⟩:=hT _ 2 a2 (by omega)
   obtain ⟨t3,c4,e1,e2,e3⟩:=hT _ 2 b2 (by omega)
   rw[a1,Ae,b1,Ae,e1,Ae,h4]
   obtain ⟨t,o1,o2⟩:=DR (o:=19) (s:=4) (kids:=[t1,t2,t3]) (ss:=[4]++[2]++[2]) (by rw[OX];exact (a3.app b3).app e3) rfl (by simp) (by omega) (by omega) (by omega) rfl (by simp[AO,nOp]) (by omega)
   rw[o1,Ae]
   exact ⟨t,c4,rfl,e2,o2.mono (by omega) (by omega)⟩
  by_cases k0:r=0
  ·rw[Av k0]
   obtain ⟨t1,c2,a1,a2,a3⟩:=hT _ 2 n2 (by omega)
   rw[a1,Ae,h4]
   obtain ⟨t,o1,o2⟩:=DR (o:=20) (s:=4) (kids:=[t1]) (ss:=[2]) (by rw[BI];exact a3) rfl (by simp) (by omega) (by omega) (by omega) rfl (by simp[AO,nOp]) (by omega)
   rw[o1,Ae]
   exact ⟨t,c2,rfl,a2,o2.mono (by omega) (by omega)⟩
  rw[Aj k0]
  by_cases k1:r=1;· rw[Av k1];exact hst
  rw[Aj k1]
  by_cases k2:r=2;· rw[Av k2];exact hst
  rw[Aj k2]
  by_cases k3:r=3;· rw[Av k3];exact (hI _ s n2 hs).eta
  rw[Aj k3]
  exact ((Ma hV hl n2 hs).eta).mono (by omega) (by omega)
 rw[Aj h4]
 exact (hA _ s hc (by omega)).eta
end
def gB:Nat->Nat
 |0=>11
 |d+1=>1+3 * gB d
theorem ADM (d:Nat):11<=gB d:=by
 induction d with
 |zero=>exact Nat.le_refl _
 |succ d ih=>simp only[gB];omega
theorem AE6:∀ {d:Nat},d<=6->gB d<=10000:=by
 intro d h
 have:d=0\/d=1\/d=2\/d=3\/d=4\/d=5\/d=6:=by omega
 rcases this with rfl | rfl | rfl | rfl | rfl | rfl | rfl<;>decide
theorem AEe {VS:List Vr} (hV:VSok VS) (hl:VS.length<=1000):∀ d,d<=5->∀ n,3 * d+3<=n->TOk VS (B6 n) d (gB d) (d+4)/\DO VS (Cv n) d (gB d) (d+4):=by
 have hT0:∀ n,1<=n->TOk VS (B6 n) 0 5 3:=by
  intro n hn
  obtain ⟨m,rfl⟩:∃ m,n=m+1:=⟨n - 1,by omega⟩
  exact T0 (B6 m) (Cv m) (CU m) (CW m) (CE m) hV hl
 have hA0:∀ n,2<=n->DO VS (CE n) 0 11 4:=by
  intro n hn
  obtain ⟨m,rfl⟩:∃ m,n=m+1:=⟨n - 1,by omega⟩
  exact TL (B6 m) (Cv m) (CU m) (CW m) (CE m) hV hl (by omega) (hT0 m (by omega))
 intro d
 induction d with
 |zero=>
  intro _ n hn
  refine ⟨fun c s hc hs=>(hT0 n (by omega) c s hc hs).mono (by decide) (by omega),?_⟩
  obtain ⟨m,rfl⟩:∃ m,n=m+1:=⟨n - 1,by omega⟩
  intro c hc
  have e:Cv (m+1)=HA (B6 m) (Cv m) (CU m) (CW m) (CE m):=rfl
  rw[e]
  unfold HA
  rw[Aw]
  exact (hA0 m (by omega) c hc).eta
 |succ d ih=>
  intro hd n hn
  have ih:=ih (by omega)
  have hN:=ADM d
  have hN':=AE6 (d:=d) (by omega)
  have hI:∀ m,3 * d+4<=m->TOk VS (CU m) (d+1) (1+3 * gB d) (d+4+1):=by
   intro m hm
   obtain ⟨k,rfl⟩:∃ k,m=k+1:=⟨m - 1,by omega⟩
   obtain ⟨i1,i2⟩:=ih k (by omega)
   exact YJ (B6 k) (Cv k) (CU k) (CW k) (CE k) (by omega) (by omega) i1 i2
  have hAt:∀ m,3 * d+4<=m->DO VS (CE m) d (1+3 * gB d) (d+4+1):=by
   intro m hm
   obtain ⟨k,rfl⟩:∃ k,m=k+1:=⟨m - 1,by omega⟩
   obtain ⟨i1,i2⟩:=ih k (by omega)
   intro c hc
   exact (TL (B6 k) (Cv k) (CU k) (CW k) (CE k) hV hl (by omega) i1 c hc).mono (by omega) (by omega)
  have hAr:∀ m,3 * d+5<=m->MV VS (CW m) (d+1) (1+3 * gB d) (d+4+1):=by
   intro m hm
   obtain ⟨k,rfl⟩:∃ k,m=k+1:=⟨m - 1,by omega⟩
   obtain ⟨i1,i2⟩:=ih k (by omega)
   exact ADd (B6 k) (Cv k) (CU k) (CW k) (CE k) hV hl (by omega) (by omega) (by omega) i1 (hI k (by omega))
  have hFo:∀ m,3 * d+5<=m->DO VS (Cv m) (d+1) (1+3 * gB d) (d+4+1):=by
   intro m hm
   obtain ⟨k,rfl⟩:∃ k,m=k+1:=⟨m - 1,by omega⟩
   obtain ⟨i1,i2⟩:=ih k (by omega)
   exact ADO (B6 k) (Cv k) (CU k) (CW k) (CE k) (by omega) (by omega) (by omega) i2 (hI k (by omega)) (hA0 k (by omega)) (hAt k (by omega))
  have hTe:∀ m,3 * d+6<=m->TOk VS (B6 m) (d+1) (1+3 * gB d) (d+4+1):=by
   intro m hm
   obtain ⟨k,rfl⟩:∃ k,m=k+1:=⟨m - 1,by omega⟩
   obtain ⟨i1,i2⟩:=ih k (by omega)
   exact ADc (B6 k) (Cv k) (CU k) (CW k) (CE k) hV hl (by omega) (by omega) (by omega) i1 (hFo k (by omega)) (hI k (by omega)) (hAr k (by omega))
  have e:d+4+1=d+1+4:=by omega
  rw[e] at hTe hFo
  exact ⟨hTe n (by omega),hFo n (by omega)⟩
def VSg:List Vr:=[([120],2),([121],2),([122],3),([119],3),([112],1),([98],1),([97],4),([99],4)]
theorem AFm:NX=some ((VSg,()),()):=rfl
theorem AAl:VSok VSg:=by
 refine ⟨?_,?_⟩
 ·decide
 ·decide
theorem AGy:VSg.length<=1000:=by decide
theorem ADv {c:List Int×Int} (hc:CI c) {s:Int} (hs:1<=s/\s<=4) {d:Nat} (hd:d<=5):Cq VSg c s (gB d) (d+4) (B6 Bl c s (d:Int) VSg):=by
 obtain ⟨f,hf1,hf2⟩:=MZ
 rw[hf1]
 exact (AEe AAl AGy d hd f (by omega)).1 c s hc hs
theorem AZ.short {VS:List Vr} {ss:List Int} {N d:Nat} {l:List Aa} (h:AZ VS ss N d l):NY l:=by
 obtain ⟨K,hK⟩:=h
 exact hK.sh
theorem AHw {t:List Aa} {F:Tf} (hs:BG t) (hF:VT t F):EK t=some ((F.srt.getD 0 0,()),()):=by
 unfold EK
 rcases Jp hs with ⟨G,h1,h2⟩ | ⟨h1,_⟩
 ·rw[h2,Ae]
  have:=h1.uniq hF
  subst this
  obtain ⟨n,k,rfl⟩:=h1.one
  simp only[qY2,AE,Option.isSome_some,Option.getD_some]
  rw[Cg,Ap,Ad,Ad (by rw[Cm];simp only[Tf.size];omega)]
  rfl
 ·exact absurd ⟨F,hF⟩ h1
end Go.AM.Num
end
section
namespace Go.AM.Num
open Tf
noncomputable def S_ (s:Int) (q:Rat):qBs:=
 if s=2 then Ay q else if q.den=1 then Ay q++[46,48] else [40,47,32]++Ay ((q.num:Int):Rat)++[46,48,32]++dd q.den++[46,48,41]
noncomputable def ADF (s:Int) (q:Rat):qBs:=if q.num < 0 then [40,45,32]++S_ s (-q)++[41] else S_ s q
def Qw (o:Int):qBs:=([[],[116,114,117,101],[102,97,108,115,101],[],[],[],[110,111,116],[97,110,100],[111,114],[61,62],[105,116,101],[61],[60,61],[60],[43],[42],[100,105,118],[109,111,100],[115,101,108,101,99,116],[115,116,111,114,101],[99,111,110,115,116]]:List qBs).getD o.toNat []
def ACH (n:Aa):qBs:=if nOp n=5 then Bv n else Qw (nOp n)
noncomputable def ADP (n:Aa) (ks:qBs):qBs:=
 if nOp n=1\/nOp n=2 then Qw (nOp n) else if nOp n=3 then un (ADF (A5 n)) (A_ n) else if nOp n=4 then Bv n
 else [40]++ACH n++ks++(if A_ n=[] then [] else 32::A_ n)++[41]
noncomputable def sep:Tf->qBs
 |nil=>[]
 |cons n k r=>32::ADP n (sep k)++sep r
end Go.AM.Num
end
section
namespace Go.AM.Num
open Tf
theorem AC7 {n:Aa} (h:Bi n=true):1<=nOp n/\nOp n<=20:=by
 unfold Bi at h
 split at h
 ·omega
 ·split at h
  ·omega
  ·split at h
   ·omega
   ·simp only[qY0,decide_eq_true_eq] at h
    exact h.1.1.1
end Go.AM.Num
end
section
namespace Go.AM.Num
def cI (a b:Int):Int:=if a < b then -1 else if a > b then 1 else 0
def cS (a b:qBs):Int:=if CZ a b then -1 else if !(CZ a b||a==b) then 1 else 0
theorem SP (a b:Int):GH a b=some ((cI a b,()),()):=by
 unfold GH cI
 by_cases h:a < b
 ·rw[Aw h,if_pos h]
 ·rw[AC h,if_neg h]
  by_cases h2:a > b
  ·rw[Aw h2,if_pos h2]
  ·rw[AC h2,if_neg h2]
theorem ZT (a b:qBs):JQ a b=some ((cS a b,()),()):=by
 unfold JQ cS
 cases CZ a b<;>cases a==b<;>rfl
def f5 (c:Int×Int×Int×Int×Int):Int:=if c.1≠0 then c.1 else if c.2.1≠0 then c.2.1 else if c.2.2.1≠0 then c.2.2.1 else if c.2.2.2.1≠0 then c.2.2.2.1 else c.2.2.2.2
def c5 (x y:Aa):Int×Int×Int×Int×Int:=(cI x.1 y.1,cI x.2.1 y.2.1,cS x.2.2.1 y.2.2.1,cS x.2.2.2.1 y.2.2.2.1,cI x.2.2.2.2 y.2.2.2.2)
def cT:List Aa->List Aa->Int
 |[],[]=>0
 |[],_::_=>-1
 |_::_,[]=>1
 |x::a,y::b=>if f5 (c5 x y)=0 then cT a b else f5 (c5 x y)
theorem AAv (a b:List Aa) (t i:Int) (c:Int×Int×Int×Int×Int):(f5 c=0/\Am DJ (a,b,t,i,some c,((0:Nat):Int),())=some (.exit 2,(a,b,t,i,some c,5,())))\/
 (f5 c≠0/\∃ k,Am DJ (a,b,t,i,some c,((0:Nat):Int),())=some (.ret,(a,b,f5 c,i,some c,k,()))):=by
 obtain ⟨c1,c2,c3,c4,c5⟩:=c
 have go:∀ (k:Nat) (x:Int),k < 5->([c1,c2,c3,c4,c5]:List Int).getD k 0=x->x=0->DJ (a,b,t,i,some (c1,c2,c3,c4,c5),(k:Int),())=some (.normal,(a,b,t,i,some (c1,c2,c3,c4,c5),((k+1:Nat):Int),())):=fun k x hk hx h0=>by
  unfold DJ
  simp only[Option.isSome_some,Option.getD_some]
  rw[Aw,Cg,Ap,Ad,Ad,qZ0,hx,BX h0,AB]
  rfl
 have stop:∀ (k:Nat) (x:Int),k < 5->([c1,c2,c3,c4,c5]:List Int).getD k 0=x->x≠0->DJ (a,b,t,i,some (c1,c2,c3,c4,c5),(k:Int),())=some (.ret,(a,b,x,i,some (c1,c2,c3,c4,c5),(k:Int),())):=fun k x hk hx h0=>by
  unfold DJ
  simp only[Option.isSome_some,Option.getD_some]
  rw[Aw,Cg,Ap,Ad,Ad,qZ0,hx,B5 h0,Cg,Ap,Ad,Ad]
 unfold f5
 simp only
 by_cases h1:c1=0
 ·rw[if_neg (by simp[h1]),A8 (go 0 c1 (by omega) rfl h1)]
  by_cases h2:c2=0
  ·rw[if_neg (by simp[h2]),A8 (go 1 c2 (by omega) rfl h2)]
   by_cases h3:c3=0
   ·rw[if_neg (by simp[h3]),A8 (go 2 c3 (by omega) rfl h3)]
    by_cases h4:c4=0
    ·rw[if_neg (by simp[h4]),A8 (go 3 c4 (by omega) rfl h4)]
     by_cases h5:c5=0
     ·rw[A8 (go 4 c5 (by omega) rfl h5)]
      refine .inl ⟨h5,Ba ?_ (by simp)⟩
      unfold DJ
      simp only
      rw[AC]
      rfl
     ·exact .inr ⟨h5,_,Ba (stop 4 c5 (by omega) rfl h5) (by simp)⟩
    ·rw[if_pos h4]
     exact .inr ⟨h4,_,Ba (stop 3 c4 (by omega) rfl h4) (by simp)⟩
   ·rw[if_pos h3]
    exact .inr ⟨h3,_,Ba (stop 2 c3 (by omega) rfl h3) (by simp)⟩
  ·rw[if_pos h2]
   exact .inr ⟨h2,_,Ba (stop 1 c2 (by omega) rfl h2) (by simp)⟩
 ·rw[if_pos h1]
  exact .inr ⟨h1,_,Ba (stop 0 c1 (by omega) rfl h1) (by simp)⟩
theorem ACs (a b:List Aa) (t i:Int) (c:Int×Int×Int×Int×Int):(f5 c=0/\Am DJ (a,b,t,i,some c,0,())=some (.exit 2,(a,b,t,i,some c,5,())))\/
 (f5 c≠0/\∃ k,Am DJ (a,b,t,i,some c,0,())=some (.ret,(a,b,f5 c,i,some c,k,()))):=AAv a b t i c
theorem ZX (a b:List Aa) (hl:a.length<=1000000000):∀ (m i:Nat),i+m=a.length->i<=b.length->∃ r,Am Ge (a,b,0,(i:Int),())=some r/\
 ((r.1=.exit 0/\r.2.1=a/\r.2.2.1=b/\cT (a.drop i) (b.drop i)=cI a.length b.length)\/(r.1=.ret/\r.2.2.2.1=cT (a.drop i) (b.drop i))):=by
 intro m
 induction m with
 |zero=>
  intro i hi hb
  refine ⟨_,Ba (e:=.exit 0) (y:=(a,b,0,(i:Int),())) ?_ (by simp),.inl ⟨rfl,rfl,rfl,?_⟩⟩
  ·unfold Ge
   simp only
   rw[AC]
  ·rw[qY7 (by omega)]
   unfold cI
   cases hd:b.drop i with
   |nil=>
    have:=congrArg List.length hd
    simp at this
    rw[if_neg (by omega),if_neg (by omega)];rfl
   |cons y l=>
    have:=congrArg List.length hd
    simp at this
    rw[if_pos (by omega)];rfl
 |succ m ih=>
  intro i hi hb
  have hil:i < a.length:=by omega
  by_cases hbl:i < b.length
  ·have ha:=qY6 hil
   have hb':=qY6 hbl
   have ga:a.getD i Ao=a[i]:=by simp[qZ4,hil]
   have gb:b.getD i Ao=b[i]:=by simp[qZ4,hbl]
   rw[ha,hb']
   simp only[cT]
   have hs:∀ r,Am DJ (a,b,(0:Int),(i:Int),some (c5 a[i] b[i]),0,())=some r->Ge (a,b,0,(i:Int),())=cond (Ex.same r.1 (Ex.exit 2)) (some (Ex.normal,(r.2.1,r.2.2.1,r.2.2.2.1,qI (r.2.2.2.2.1+(1:Int)),())))
    (cond (Ex.same r.1 Ex.ret) (some (Ex.ret,(r.2.1,r.2.2.1,r.2.2.2.1,r.2.2.2.2.1,()))) none):=fun r hr=>by
    unfold Ge ON
    simp only
    rw[Aw,Aw,Ap,Ad,Ad,Ap,Ad,Ad,Ae,qZ0,ga,gb]
    simp only[SP,ZT,Ae]
    unfold c5 at hr
    rw[hr,Ae]
   rcases ACs a b 0 i (c5 a[i] b[i]) with ⟨h1,h2⟩ | ⟨h1,k,h2⟩
   ·rw[if_pos h1]
    have:=hs _ h2
    simp only[Bh,Az] at this
    rw[AB] at this
    rw[A8 this]
    exact ih (i+1) (by omega) (by omega)
   ·rw[if_neg h1]
    have:=hs _ h2
    simp only[Cc,Ca,Az,AE] at this
    exact ⟨_,Ba this (by simp),.inr ⟨rfl,rfl⟩⟩
  ·refine ⟨_,Ba (e:=.exit 0) (y:=(a,b,0,(i:Int),())) ?_ (by simp),.inl ⟨rfl,rfl,rfl,?_⟩⟩
   ·unfold Ge
    simp only
    rw[Aw,AC]
   ·rw[qY7 (show b.length<=i by omega),qY6 hil]
    unfold cI
    rw[if_neg (by omega),if_pos (by omega)];rfl
theorem Y5 {a b:List Aa} (hl:a.length<=1000000000):Md a b=some ((cT a b,()),()):=by
 unfold Md
 obtain ⟨r,hr,h⟩:=ZX a b hl a.length 0 (by omega) (by omega)
 rw[show ((0:Nat):Int)=0 from rfl] at hr
 rw[hr,Ae]
 simp only[List.drop_zero] at h
 rcases h with ⟨h1,h2,h3,h4⟩ | ⟨h1,h2⟩
 ·rw[h1,h2,h3,h4]
  simp only[Bh,Az,SP,Ae]
 ·rw[h1,h2]
  simp only[Cc,Ca,Az,AE]
theorem ACN {a b:Int}:cI a b=0 ↔ a=b:=by
 unfold cI
 split
 ·constructor
  ·intro h;cases h
  ·intro h;omega
 ·split
  ·constructor
   ·intro h;cases h
   ·intro h;omega
  ·constructor
   ·intro _;omega
   ·intro _;rfl
theorem RL:∀ (s:qBs),CZ s s=false
 |[]=>rfl
 |c::s=>by
  have ih:=RL s
  unfold CZ at ih ⊢
  simp only[Op.bytesLess,ih]
  simp
theorem ABB {a b:qBs}:cS a b=0 ↔ a=b:=by
 unfold cS
 constructor
 ·intro h
  cases h1:CZ a b with
  |true=>rw[h1] at h;cases h
  |false=>
   rw[h1] at h
   cases h2:a==b with
   |true=>exact eq_of_beq h2
   |false=>rw[h2] at h;cases h
 ·rintro rfl
  rw[RL]
  simp
theorem AEk {c:Int×Int×Int×Int×Int}:f5 c=0 ↔ c.1=0/\c.2.1=0/\c.2.2.1=0/\c.2.2.2.1=0/\c.2.2.2.2=0:=by
 unfold f5
 constructor
 ·intro h
  split at h
  ·omega
  ·split at h
   ·omega
   ·split at h
    ·omega
    ·split at h
     ·omega
     ·omega
 ·rintro ⟨h1,h2,h3,h4,h5⟩
  simp[h1,h2,h3,h4,h5]
theorem c5_zero {x y:Aa}:f5 (c5 x y)=0 ↔ x=y:=by
 rw[AEk]
 unfold c5
 simp only[ACN,ABB]
 constructor
 ·rintro ⟨h1,h2,h3,h4,h5⟩
  exact Prod.ext h1 (Prod.ext h2 (Prod.ext h3 (Prod.ext h4 h5)))
 ·rintro rfl;exact ⟨rfl,rfl,rfl,rfl,rfl⟩
theorem M8:∀ {a b:List Aa},cT a b=0 ↔ a=b
 |[],[]=>by simp[cT]
 |[],_::_=>by simp[cT]
 |_::_,[]=>by simp[cT]
 |x::a,y::b=>by
  simp only[cT]
  split
  ·rename_i h
   rw[M8,c5_zero.1 h]
   simp
  ·rename_i h
   constructor
   ·intro h';exact absurd h' h
   ·intro h';cases h';exact absurd (c5_zero.2 rfl) h
theorem AGD {a b:List Aa} (hl:a.length<=1000000000):KT a b=some ((decide (a=b),()),()):=by
 unfold KT
 rw[Y5 hl,Ae]
 by_cases h:a=b
 ·rw[qZ10 h,beq_iff_eq.2 (M8.2 h)]
 ·rw[qZ9 h]
  have:(cT a b==0)=false:=by simpa using fun e=>h (M8.1 e)
  rw[this]
end Go.AM.Num
end
section
namespace Go.AM.Num
open Tf
instance (priority:=low) decVal:DecidableEq Bp:=fun _ _=>inferInstance
end Go.AM.Num
end
section
namespace Go.AM.Num
abbrev Tbl:=List (List Bp)
structure SmT (A:Tbl) (R:List Bp) (N:Nat):Prop where
 a:∀ l∈A,(∀ v∈l,SmallV v)/\l.length<=1000
 r:∀ v∈R,SmallV v
 la:A.length<=N
 lr:R.length<=N
end Go.AM.Num
end
section
namespace Go.AM.Num
theorem Zg:N0=some ((true,()),()):=by kernel_rfl
end Go.AM.Num
end
section
namespace Go.AM.Num
open Tf
structure WithOk (t:List Aa) (F:Tf):Prop where
 vt:VT t F
 len:t.length<=400
 sh:NY t
 dep:F.dep<=20
theorem Xd {VS:List Vr} {ss:List Int} {N d:Nat} {t:List Aa} {F:Tf} (h:GenF VS ss N d t F):∀ a∈Ch F,a.2.1=false/\a.2.2.1=[]/\(a.1,a.2.2.2)∈VS:=by
 intro a ha
 obtain ⟨⟨n,k⟩,h1,h2⟩:=List.mem_filterMap.1 ha
 have hm:n∈t:=by rw[<-h.flat];exact U4 h1
 unfold B8 at h2
 split at h2
 ·rename_i h4
  simp only[Option.some.injEq] at h2
  subst h2
  exact ⟨rfl,rfl,h.vars n hm h4⟩
 ·split at h2
  ·rename_i h5
   exact absurd h5 (h.noap n hm)
  ·cases h2
theorem Mz {ss:List Int} {N d:Nat} {l:List Aa} (h:AZ VSg ss N d l) {nm:qBs} {s:Int} (hnm:D8 nm=true) (hs:1<=s/\s<=4) (hk:1<=ss.length/\ss.length<=40) (hn:∀ v∈VSg,v.1≠nm) (hN:N<=350) (hd:d<=19) :
 ∃ F,WithOk (((5:Int),s,nm,([]:qBs),(ss.length:Int))::l) F:=by
 obtain ⟨K,hK⟩:=h
 have hl:K.len=ss.length:=by rw[<-C8,hK.srt]
 have hu:=Xd hK
 have hsz:=hK.size
 refine ⟨cons ((5:Int),s,nm,([]:qBs),(ss.length:Int)) K Tf.nil,⟨by simp[Tf.flat,hK.flat],Cp.2 ⟨FF.2 ⟨?_,?_⟩,by rw[hl],hK.wf,rfl⟩,?_,by simp[Tf.len],by simp only[Tf.size];omega,?_,?_⟩,?_,?_,?_⟩
 ·simp[Bi,nOp,A5,Bv,A_,hnm,hs]
 ·simp[AQ,nOp,AU];omega
 ·rw[DB]
  refine ⟨by rw[hK.srt];exact hK.nz,?_,by simp[Tf.srt]⟩
  simp[AO,nOp,A5];omega
 ·simp only[Tf.dep];have:=hK.dep;omega
 ·have e:Ch (cons ((5:Int),s,nm,([]:qBs),(ss.length:Int)) K Tf.nil)=(nm,true,K.srt,s)::Ch K:=by
   simp[Ch,subs,B8,nOp,Bv,A5]
  rw[e]
  intro a ha b hb hab
  rcases List.mem_cons.1 ha with rfl | ha
  ·rcases List.mem_cons.1 hb with rfl | hb
   ·rfl
   ·obtain ⟨_,_,h3⟩:=hu b hb
    exact absurd hab.symm (hn _ h3)
  ·rcases List.mem_cons.1 hb with rfl | hb
   ·obtain ⟨_,_,h3⟩:=hu a ha
    exact absurd hab (hn _ h3)
   ·obtain ⟨a1,a2,a3,a4⟩:=a
    obtain ⟨b1,b2,b3,b4⟩:=b
    obtain ⟨p1,p2,p3⟩:=hu _ ha
    obtain ⟨q1,q2,q3⟩:=hu _ hb
    simp only at p1 p2 p3 q1 q2 q3 hab
    have:=AAl.once _ p3 _ q3 hab
    simp only[Prod.mk.injEq] at this
    rw[p1,p2,q1,q2,this.1,this.2]
 ·have:l.length=K.size:=by rw[<-hK.flat,Br]
  simp only[qY11];omega
 ·intro n hn
  rcases List.mem_cons.1 hn with rfl | hn
  ·exact Nat.zero_le 73
  ·exact hK.sh n hn
 ·simp only[Tf.dep];have:=hK.dep;omega
theorem V3 {s:Int} {N d:Nat} {t:List Aa} (h:AZ VSg [s] N d t) (hN:N<=350) (hd:d<=20):∃ F,WithOk t F:=by
 obtain ⟨F,hF⟩:=h
 have hsz:=hF.size
 have:=hF.dep
 exact ⟨F,On AAl hF (by omega) (by omega),by rw[<-hF.flat,Br];omega,hF.sh,by omega⟩
theorem RW {n:Aa} {a:List Aa} (h:a.length<=90000):DE n [a]=some (((n.1,n.2.1,n.2.2.1,n.2.2.2.1,1)::a,()),()):=by
 rw[AAj (by simp) (by simpa using h)];simp
theorem Xx {n:Aa} {a b:List Aa} (h:a.length+b.length<=90000):DE n [a,b]=some (((n.1,n.2.1,n.2.2.1,n.2.2.2.1,2)::(a++b),()),()):=by
 rw[AAj (by simp) (by simpa using h)];simp
theorem AFp (l:List Int):∃ t F,Ke l=some ((t,()),())/\WithOk t F:=by
 unfold Ke
 obtain ⟨c0,n0,hc0⟩:=XM l
 obtain ⟨r,c1,a1,a2,a3,a4⟩:=BE hc0 (n:=4) (by omega)
 obtain ⟨x,c2,b1,b2,b3⟩:=ADv a2 (s:=1+r) (by omega) (d:=3) (by omega)
 obtain ⟨k,c3,d1,d2,d3,d4⟩:=BE b2 (n:=4) (by omega)
 have hN:gB 3<=310:=by decide
 rw[n0]
 simp only[Ae]
 rw[a1]
 simp only[Ae,AFm]
 have b1:B6 Bl c1 (1+r) 3 VSg=some ((x,()),(c2,())):=b1
 rw[AB,b1]
 simp only[Ae]
 rw[d1]
 simp only[Ae]
 obtain ⟨F0,hF0⟩:=V3 b3 (by omega) (by omega)
 have hlx:=b3.len
 have hG:=b3
 obtain ⟨F1,hF1⟩:=b3
 have hsrt:E9 x=some ((1+r,()),()):=by
  rcases AAO (t:=x) (fun n hn=>by have:=hF0.sh n hn;omega) with ⟨F,h1,h2,_⟩ | ⟨h1,_⟩
  ·rw[h2]
   have hvt:=On AAl hF1 (by omega) (by omega)
   rw[h1.uniq hvt,hF1.srt];rfl
  ·exact absurd ⟨F0,hF0.vt⟩ h1
 rw[hsrt]
 simp only[Ae]
 have done:∀ {o:Option ((List Aa×Unit)×Unit)},o=some ((x,()),())->∃ t F,o=some ((t,()),())/\WithOk t F:=fun h=>⟨x,F0,h,hF0⟩
 by_cases e0:k=0
 ·rw[Av e0]
  by_cases q:1+r=2
  ·rw[Av q,RW (by omega)]
   rw[q] at hG
   obtain ⟨F,hF⟩:=Mz hG (nm:=[102]) (s:=2) (by decide) (by omega) (by simp) (by decide) (by omega) (by omega)
   exact ⟨_,F,rfl,hF⟩
  ·rw[Aj q];exact done rfl
 rw[Aj e0]
 by_cases e1:k=1
 ·rw[Av e1]
  by_cases q:1+r=1
  ·obtain ⟨a,c4,f1,f2,f3,f4⟩:=AAB d2 (s:=3) (by omega)
   have f1':GI c3=some ((a,()),(c4,())):=by
    have:=f1
    unfold Ef at this
    rw[Aj] at this
    cases hh:GI c3 with
    |none=>rw[hh] at this;simp at this
    |some y=>
     rw[hh] at this
     obtain ⟨⟨y1,u1⟩,y2,u2⟩:=y
     simpa using this
   rw[Av q,f1']
   simp only[Ae]
   rw[f3]
   simp only[Ae]
   rw[Xx (by simp;omega)]
   rw[q] at hG
   obtain ⟨F,hF⟩:=Mz (hG.app (f4.mono (Nat.le_refl 1) (show 1<=3+4 by omega))) (nm:=[103]) (s:=1) (by decide) (by omega) (by simp) (by decide) (by omega) (by omega)
   exact ⟨_,F,rfl,hF⟩
  ·rw[Aj q];exact done rfl
 rw[Aj e1]
 by_cases e2:k=2
 ·rw[Av e2]
  by_cases q:1+r=4
  ·rw[Av q,RW (by omega)]
   rw[q] at hG
   obtain ⟨F,hF⟩:=Mz hG (nm:=[104]) (s:=4) (by decide) (by omega) (by simp) (by decide) (by omega) (by omega)
   exact ⟨_,F,rfl,hF⟩
  ·rw[Aj q];exact done rfl
 rw[Aj e2]
 exact done rfl
end Go.AM.Num
end
section
namespace Go.AM.Num
open Tf
def roots:Tf->List (Aa×Tf)
 |.nil=>[]
 |.cons n k r=>(n,k)::roots r
def BQ (f:Tf):List (List Aa):=(roots f).map fun x=>x.1::x.2.flat
theorem QC (f:Tf):(roots f).length=f.len:=by
 induction f with
 |nil=>rfl
 |cons n k r _ ih=>simp[roots,len,ih]
theorem OH (f:Tf):(BQ f).flatten=f.flat:=by
 induction f with
 |nil=>rfl
 |cons n k r _ ih=>
  have e:BQ (cons n k r)=(n::k.flat)::BQ r:=rfl
  rw[e,List.flatten_cons,ih];simp[Tf.flat]
theorem AGR {f:Tf}:∀ {x:Aa×Tf},x∈roots f->x∈f.subs:=by
 induction f with
 |nil=>intro x h;simp[roots] at h
 |cons n k r _ ih=>
  intro x h
  simp only[roots,qY12] at h
  simp only[subs,qY12,qZ7]
  rcases h with h | h
  ·exact .inl h
  ·exact .inr (.inr (ih h))
theorem V5 {f:Tf}:∀ {a:Aa} {b:Tf},(a,b)∈roots f->(∀ x∈(cons a b nil).subs,x∈f.subs)/\b.dep+1<=f.dep/\b.size+1<=f.size/\((0:Int)∉f.srt->AO a (op1 b) b.srt≠0):=by
 induction f with
 |nil=>intro a b h;simp[roots] at h
 |cons n k r _ ih=>
  intro a b h
  simp only[roots,qY12,Prod.mk.injEq] at h
  rcases h with ⟨rfl,rfl⟩ | h
  ·refine ⟨fun x hx=>?_,by simp only[Tf.dep];omega,by simp only[Tf.size];omega,fun hs=>(DB.1 hs).2.1⟩
   simp only[subs,qY12,qZ7,qY16,or_false] at hx ⊢
   rcases hx with hx | hx
   ·exact .inl hx
   ·exact .inr (.inl hx)
  ·obtain ⟨h1,h2,h3,h4⟩:=ih h
   refine ⟨fun x hx=>?_,by simp only[Tf.dep];omega,by simp only[Tf.size];omega,fun hs=>h4 (DB.1 hs).2.2⟩
   simp only[subs,qY12,qZ7]
   exact .inr (.inr (h1 x hx))
theorem VT.kid {t:List Aa} {n:Aa} {k:Tf} (h:VT t (cons n k nil)) {a:Aa} {b:Tf} (hm:(a,b)∈roots k):VT (a::b.flat) (cons a b nil):=by
 obtain ⟨w1,w2,w3,_⟩:=Cp.1 h.wf
 obtain ⟨s1,s2,_⟩:=DB.1 h.srt
 obtain ⟨r1,r2,r3,r4⟩:=V5 hm
 obtain ⟨q1,q2,q3,q4⟩:=M7 w3 s1 (AGR hm)
 have hsz:=h.size
 have hdp:=h.dep
 simp only[Tf.size,Tf.dep] at hsz hdp
 refine ⟨by simp[Tf.flat],Cp.2 ⟨q1,q2,q3,rfl⟩,DB.2 ⟨q4,r4 s1,by simp[Tf.srt]⟩,by simp[Tf.len],by simp only[Tf.size];omega,by simp only[Tf.dep];omega,h.cns.mono fun u hu=>?_⟩
 obtain ⟨x,hx,hxu⟩:=List.mem_filterMap.1 hu
 refine List.mem_filterMap.2 ⟨x,?_,hxu⟩
 simp only[subs,qY12,qZ7]
 exact .inr (.inl (r1 x hx))
theorem BG.kid {t:List Aa} {n:Aa} {k:Tf} (hs:BG t) (h:VT t (cons n k nil)) {a:Aa} {b:Tf} (hm:(a,b)∈roots k):BG (a::b.flat):=fun x hx=>by
 refine hs x ?_
 rw[<-h.flat]
 simp only[Tf.flat,qY12,qZ7]
 refine .inr (.inl ?_)
 have:x∈(BQ k).flatten:=List.mem_flatten.2 ⟨_,List.mem_map.2 ⟨_,hm,rfl⟩,hx⟩
 rwa [OH] at this
theorem ABL {l:List Aa} (h:l.length<=1000000) (h0:l≠[]):KZ (some l)=some ((l,()),()):=by
 unfold KZ
 have h1:0 < l.length:=List.length_pos_iff.2 h0
 have e:Hw (some l)=true:=by cases l with
  |nil=>exact absurd rfl h0
  |cons a l=>rfl
 rw[e,Cg]
 simp only[Option.isNone_some,AE,Option.getD_some]
 rw[Aw h1,Ad (by simp[As];omega)]
 rfl
theorem YM {t:List Aa} {P:List (Int×Af)} (hP:P.length=t.length) (ht:t.length<=20000) (L:List Int) (hL:L.length<=20000):∀ (r:Tf) (p:Nat) (out:List (List Aa)) (i:Nat) (rest:List Aa) (rest2:List (Int×Af)),t.drop p=r.flat++rest->P.drop p=info p r++rest2->L.drop i=rtf p r->i<=L.length->out.length<=i->
 Am HZ (t,some (t,P),out,L,(L.length:Int),(i:Int),())=some (.exit 0,(t,some (t,P),out++BQ r,L,(L.length:Int),(L.length:Int),())):=by
 intro r
 induction r with
 |nil=>
  intro p out i rest rest2 _ _ hd hi _
  have hil:i=L.length:=by
   have:=congrArg List.length hd
   simp[rtf] at this
   omega
  subst hil
  refine Ba ?_ (by simp)
  unfold HZ
  simp only
  rw[AC]
  simp[BQ,roots]
 |cons n k r _ ih=>
  intro p out i rest rest2 h1 h2 hd hi ho
  simp only[Tf.flat,qY5,qZ1] at h1
  simp only[info,qY5,qZ1] at h2
  simp only[rtf] at hd
  obtain ⟨g1,g2⟩:=DV (d:=(0:Int)) hd
  obtain ⟨p1,p2⟩:=DV (d:=(((0:Int),(0:Int),(0:Int)))) h2
  have hlen:p+1+k.size+r.size+rest.length=t.length:=by
   have:=congrArg List.length h1
   simp only[List.length_drop,qY11,qZ6,Br] at this
   omega
  have hseg:(t.take (p+1+k.size)).drop p=n::k.flat:=by
   rw[List.drop_take,h1]
   have e:p+1+k.size - p=k.size+1:=by omega
   rw[e,List.take_succ_cons]
   congr 1
   rw[<-Br k,List.take_left']
   rfl
  have hgo:HZ (t,some (t,P),out,L,(L.length:Int),(i:Int),())=some (.normal,(t,some (t,P),out++[n::k.flat],L,(L.length:Int),((i+1:Nat):Int),())):=by
   unfold HZ
   simp only[Option.isSome_some,Option.getD_some]
   rw[Aw,Ap,Ad,Ad,Cg,qZ0,g1,Ap,Ad,Ad,qZ0]
   simp only[p1]
   rw[Ap,Ap,Ad,Ad,Ad,qZ0,hseg,ABL (by simp only[qY11,Br];omega) (by simp),Ae,Ad (by simp[As];omega),AB]
   rfl
  have hd':t.drop (p+1+k.size)=r.flat++rest:=by
   have:=congrArg (List.drop (1+k.size)) h1
   rw[List.drop_drop] at this
   have e:p+(1+k.size)=p+1+k.size:=by omega
   rw[e] at this
   rw[this,Nat.add_comm 1,List.drop_succ_cons,List.drop_append_of_le_length (by rw[Br];omega),qY7 (by rw[Br];omega),qY15]
  have hP':P.drop (p+1+k.size)=info (p+1+k.size) r++rest2:=by
   have:=congrArg (List.drop (1+k.size)) h2
   rw[List.drop_drop] at this
   have e:p+(1+k.size)=p+1+k.size:=by omega
   rw[e] at this
   rw[this,Nat.add_comm 1,List.drop_succ_cons,List.drop_append_of_le_length (by rw[Cm];omega),qY7 (by rw[Cm];omega),qY15]
  have hL':L.drop (i+1)=rtf (p+1+k.size) r:=by
   have:=congrArg (List.drop 1) hd
   rw[List.drop_drop] at this
   simpa using this
  rw[A8 hgo,ih (p+1+k.size) _ (i+1) rest rest2 hd' hP' hL' (by omega) (by simp;omega)]
  have e:BQ (cons n k r)=(n::k.flat)::BQ r:=rfl
  rw[e]
  simp
theorem AAs (f:Tf):∀ p,(rtf p f).length=f.len:=by
 induction f with
 |nil=>intro p;rfl
 |cons n k r _ ih=>intro p;simp[rtf,len,ih]
theorem ADG {t:List Aa} {n:Aa} {k:Tf} (hs:BG t) (h:VT t (cons n k nil)):Ll t=some ((BQ k,()),()):=by
 unfold Ll
 have hsz:=h.size
 have htl:t.length=(cons n k nil).size:=by rw[<-h.flat,Br]
 simp only[Tf.size] at hsz htl
 rcases Jp hs with ⟨G,h1,h2⟩ | ⟨h1,_⟩
 ·have:=h1.uniq h
  subst this
  rw[h2,Ae]
  simp only[qY2,AE]
  have hfl:t=n::k.flat:=by rw[<-h.flat];simp[Tf.flat]
  have hw:=(Cp.1 h.wf).2.1
  have hkl:=Dz k
  have hk:=Ux (t:=t) (P:=info 0 (cons n k nil)) (by rw[Cm];simp only[Tf.size];omega) (p:=0) (n:=n) (k:=k) (rest:=[]) (by omega) (by rw[hfl];rfl) hw (by simp[info]) (by omega) (by omega)
  rw[show ((0:Nat):Int)=0 from rfl] at hk
  rw[hk,Ae]
  have hl:=YM (t:=t) (P:=info 0 (cons n k nil)) (by rw[Cm];simp only[Tf.size];omega) (by omega) (rtf (0+1) k) (by rw[AAs];omega) k (0+1) [] 0 [] [] (by rw[hfl];simp) (by simp[info]) rfl (by omega) (by simp)
  rw[show ((0:Nat):Int)=0 from rfl] at hl
  simp only
  rw[hl,Ae,Bh,Az]
  simp
 ·exact absurd ⟨_,h⟩ h1
theorem Vh {t:List Aa} {F:Tf} (hs:BG t) (h:VT t F):JC t=some (((F.dep:Int),()),()):=by
 unfold JC
 rcases Jp hs with ⟨G,h1,h2⟩ | ⟨h1,_⟩
 ·have:=h1.uniq h
  subst this
  obtain ⟨n,k,rfl⟩:=h1.one
  rw[h2,Ae]
  simp only[qY2,AE,Option.isSome_some,Option.getD_some]
  rw[Cg,Ap,Ad,Ad (by rw[Cm];simp only[Tf.size];omega)]
  simp[info,Tf.dep]
 ·exact absurd ⟨F,h⟩ h1
end Go.AM.Num
end
section
namespace Go.AM.Num
open Tf
open Classical in
noncomputable def Ds (t:List Aa):Tf:=if h:∃ F,VT t F then h.choose else .nil
theorem Ok {t:List Aa} {F:Tf} (h:VT t F):Ds t=F:=by
 unfold Ds
 have h':∃ F,VT t F:=⟨F,h⟩
 rw[dif_pos h']
 exact h'.choose_spec.uniq h
noncomputable def B7:List (List Aa)->Tf
 |[]=>.nil
 |k::ks=>(Ds k).app (B7 ks)
def nodeN (n:Aa) (kids:List (List Aa)):Aa:=(n.1,n.2.1,n.2.2.1,n.2.2.2.1,(kids.length:Int))
noncomputable def Ce (n:Aa) (kids:List (List Aa)):Tf:=cons (nodeN n kids) (B7 kids) .nil
open Classical in
noncomputable def D4 (n:Aa) (kids:List (List Aa)):List Aa×Int:=
 if ¬ ∀ k∈kids,∃ F,VT k F then ([],1)
 else if ¬ (Bi (nodeN n kids)=true/\AQ (nOp n) kids.length=true)\/(nOp n=15/\op1 (B7 kids)≠3) then ([],8)
 else if AO (nodeN n kids) 3 (B7 kids).srt=0\/¬ CR (Ch (Ce n kids)) then ([],3)
 else if 257 < (Ce n kids).dep then ([],6)
 else (nodeN n kids::kids.flatten,0)
theorem Sz {kids:List (List Aa)} (h:∀ k∈kids,∃ F,VT k F):(B7 kids).flat=kids.flatten/\(B7 kids).wf=true/\(0:Int)∉(B7 kids).srt/\(B7 kids).srt=kids.map (fun k=>(Ds k).srt.getD 0 0)/\(B7 kids).len=kids.length/\(B7 kids).dep<=257:=by
 induction kids with
 |nil=>exact ⟨rfl,rfl,by simp[B7,Tf.srt],rfl,rfl,by simp[B7,Tf.dep]⟩
 |cons k ks ih=>
  obtain ⟨F,hF⟩:=h k (by simp)
  obtain ⟨i1,i2,i3,i4,i5,i6⟩:=ih fun x hx=>h x (by simp[hx])
  have e:=Ok hF
  simp only[B7,e]
  have hl:=hF.len
  have hsl:F.srt.length=1:=by rw[C8];exact hl
  obtain ⟨s,hs⟩:=List.length_eq_one_iff.1 hsl
  refine ⟨by rw[HP,hF.flat,i1];rfl,by rw[IC,hF.wf,i2];rfl,?_,?_,by rw[LB,hl,i5];simp;omega,by rw[NM];have:=hF.dep;omega⟩
  ·rw[G6,qZ7];exact fun h=>h.elim hF.srt i3
  ·rw[G6,i4,List.map_cons,e,hs];rfl
theorem AEs {t:List Aa} (hs:BG t) (h:¬ ∃ F,VT t F):EK t=some ((0,()),()):=by
 unfold EK
 rcases Jp hs with ⟨G,h1,_⟩ | ⟨_,h2⟩
 ·exact absurd ⟨G,h1⟩ h
 ·rw[h2,Ae];rfl
theorem Wb {t:List Aa} {F:Tf} (h:VT t F):F.srt.getD 0 0≠0:=by
 have hsl:F.srt.length=1:=by rw[C8];exact h.len
 obtain ⟨s,hs⟩:=List.length_eq_one_iff.1 hsl
 have:=h.srt
 rw[hs] at this ⊢
 simpa using fun e=>this (by simp[e])
theorem XN {kids:List (List Aa)} (hs:∀ k∈kids,BG k) (hl:kids.length<=1000) (ht:kids.flatten.length<=20000) (n:Aa):∀ (m i:Nat),i+m=kids.length->(∀ k∈kids.take i,∃ F,VT k F)->
 ((¬ ∀ k∈kids,∃ F,VT k F)/\∃ x,Am FW (n,([]:List Aa),0,(kids.take i).map (fun k=>(Ds k).srt.getD 0 0),n::(kids.take i).flatten,kids,(kids.length:Int),(i:Int),())=some (.ret,(n,([]:List Aa),1,x)))\/
 ((∀ k∈kids,∃ F,VT k F)/\∃ x,Am FW (n,([]:List Aa),0,(kids.take i).map (fun k=>(Ds k).srt.getD 0 0),n::(kids.take i).flatten,kids,(kids.length:Int),(i:Int),())=some (.exit 0,(n,([]:List Aa),0,kids.map (fun k=>(Ds k).srt.getD 0 0),n::kids.flatten,x))):=by
 intro m
 induction m with
 |zero=>
  intro i hi hv
  have e:kids.take i=kids:=List.take_of_length_le (by omega)
  rw[e] at hv ⊢
  refine .inr ⟨hv,(kids,(kids.length:Int),(i:Int),()),Ba ?_ (by simp)⟩
  unfold FW
  simp only
  rw[AC (by first | omega)]
 |succ m ih=>
  intro i hi hv
  have hlt:i < kids.length:=by omega
  have hg:kids.getD i ([]:List Aa)=kids[i]:=by simp[qZ4,hlt]
  have hm:kids[i]∈kids:=List.getElem_mem hlt
  have htk:kids.take (i+1)=kids.take i++[kids[i]]:=by rw[List.take_add_one,qZ5 hlt];rfl
  have hfl:(kids.take (i+1)).flatten.length<=kids.flatten.length:=by
   conv=>rhs;rw[<-List.take_append_drop (i+1) kids]
   rw[List.flatten_append,qZ6];omega
  rw[htk,List.flatten_append,qZ6] at hfl
  simp only[List.flatten_cons,List.flatten_nil,qY4] at hfl
  generalize kids[i]=k at hg hm htk hfl
  by_cases hk:∃ F,VT k F
  ·obtain ⟨F,hF⟩:=hk
   have hso:=AHw (hs k hm) hF
   have hnz:=Wb hF
   have hgo:FW (n,([]:List Aa),0,(kids.take i).map (fun k=>(Ds k).srt.getD 0 0),n::(kids.take i).flatten,kids,(kids.length:Int),(i:Int),())=some (.normal,(n,([]:List Aa),0,(kids.take (i+1)).map (fun k=>(Ds k).srt.getD 0 0),n::(kids.take (i+1)).flatten,kids,(kids.length:Int),((i+1:Nat):Int),())):=by
    unfold FW
    simp only
    rw[Aw,Ap,Ad,Ad,qZ0,hg,hso]
    simp only[Ae]
    rw[Aj hnz,Ad (by simp[As];omega),Ad (by simp only[qY11,As];omega),AB,htk,List.map_append,List.flatten_append]
    simp[Ok hF]
   rw[A8 hgo]
   exact ih (i+1) (by omega) fun x hx=>by
    rw[htk,qZ7,qZ8] at hx
    rcases hx with hx | rfl
    ·exact hv x hx
    ·exact ⟨F,hF⟩
  ·refine .inl ⟨fun h=>hk (h k hm),((kids.take i).map (fun k=>(Ds k).srt.getD 0 0),n::(kids.take i).flatten,kids,(kids.length:Int),(i:Int),()),Ba ?_ (by simp)⟩
   unfold FW
   simp only
   rw[Aw,Ap,Ad,Ad,qZ0,hg,AEs (hs k hm) hk]
   simp only[Ae]
   rw[Av rfl]
theorem R7 {n:Aa} {kids:List (List Aa)} (hs:∀ k∈kids,BG k) (hn:(A_ n).length<=100000) (hl:kids.length<=1000) (ht:kids.flatten.length+1<=20000) (hv:∀ k∈kids,∃ F,VT k F) (hf:Bi (nodeN n kids)=true) (hc:AQ (nOp n) kids.length=true) (h15:nOp n=15->op1 (B7 kids)=3) :
 ((Gz (nodeN n kids) (kids.map fun k=>(Ds k).srt.getD 0 0)).bind fun r8=>
  cond (r8.1.1==(0:Int))
   (some ((([]:List Aa),3,()),()))
   ((Gt (nodeN n kids::kids.flatten)).bind fun r9=>
   (F7 r9.1.1).bind fun r10=>
   cond (!r10.1.2.2.1)
    (some ((([]:List Aa),3,()),()))
    ((E8 r9.1.1).bind fun r11=>
    cond (r11.1.1)
     (some ((([]:List Aa),6,()),()))
     (some ((nodeN n kids::kids.flatten,0,()),())))))=some (((D4 n kids).1,(D4 n kids).2,()),()):=by
 obtain ⟨j1,j2,j3,j4,j5,j6⟩:=Sz hv
 have hop:1<=nOp (nodeN n kids)/\nOp (nodeN n kids)<=20:=AC7 hf
 have hso:=Uf (n:=nodeN n kids) (ss:=kids.map fun k=>(Ds k).srt.getD 0 0) hop (by rw[List.length_map];omega) (by rw[List.length_map];exact hc)
 rw[hso]
 simp only[Ae]
 have b1:¬ (¬ ∀ k∈kids,∃ F,VT k F):=fun h=>h hv
 have b2:¬ (¬ (Bi (nodeN n kids)=true/\AQ (nOp n) kids.length=true)\/(nOp n=15/\op1 (B7 kids)≠3)):=fun h=>h.elim (fun h=>h ⟨hf,hc⟩) fun h=>h.2 (h15 h.1)
 unfold D4
 rw[if_neg b1,if_neg b2,j4]
 by_cases hz:AO (nodeN n kids) 3 (kids.map fun k=>(Ds k).srt.getD 0 0)=0
 ·rw[Av hz,if_pos (.inl hz)]
 rw[Aj hz]
 have hz':AO (nodeN n kids) (op1 (B7 kids)) (B7 kids).srt≠0:=by
  rw[LG,if_neg (fun h=>h.2 (h15 h.1)),j4];exact hz
 have hfl:(Ce n kids).flat=nodeN n kids::kids.flatten:=by simp[Ce,Tf.flat,j1]
 have hw:(Ce n kids).wf=true:=Cp.2 ⟨FF.2 ⟨hf,hc⟩,by rw[j5];rfl,j2,rfl⟩
 have h0:(0:Int)∉(Ce n kids).srt:=DB.2 ⟨j3,hz',by simp[Tf.srt]⟩
 have hsh:BG (nodeN n kids::kids.flatten):=fun x hx=>by
  rcases List.mem_cons.1 hx with rfl | hx
  ·exact hn
  ·obtain ⟨k,hk,hx⟩:=List.mem_flatten.1 hx
   exact hs k hk x hx
 have hsz:(Ce n kids).size=kids.flatten.length+1:=by rw[<-Br,hfl];simp
 have hbk:bkp (nodeN n kids::kids.flatten)=some (Ce n kids):=T8.2 ⟨hfl,hw,h0⟩
 rw[Pj hsh (by simp only[qY11];omega),hbk]
 simp only[Ae]
 rcases RS hfl hw h0 (by omega) with ⟨c1,c2⟩ | ⟨c1,c2⟩
 ·rw[c2]
  simp only[Ae,qY2,AE]
  rw[if_neg (fun h=>h.elim hz fun h=>h c1)]
  have hlg:E8 (some (nodeN n kids::kids.flatten,info 0 (Ce n kids)))=some ((decide (257 < (Ce n kids).dep),()),()):=by
   unfold E8
   simp only[Option.isSome_some,Option.getD_some]
   rw[Cg,AC (by simp only[qY11];omega),Cg,Ap,Ad (by first | omega),Ad (by rw[Cm,hsz];omega)]
   have e:(info 0 (Ce n kids)).getD (0:Int).toNat ((0:Int),(0:Int),(0:Int))=(info 0 (Ce n kids)).getD 0 ((0:Int),(0:Int),(0:Int)):=rfl
   have e2:((info 0 (Ce n kids)).getD 0 ((0:Int),(0:Int),(0:Int))).2.1=((Ce n kids).dep:Int):=by simp[Ce,info,Tf.dep]
   refine congrArg (fun b:Bool=>some ((b,()),())) (decide_eq_decide.2 ?_)
   rw[e,e2]
   omega
  rw[hlg]
  simp only[Ae]
  by_cases hd:257 < (Ce n kids).dep
  ·rw[Aw hd,if_pos hd]
  ·rw[AC hd,if_neg hd]
 ·rw[c2]
  simp only[Ae,qY1,Az]
  rw[if_pos (.inr c1)]
theorem AGF {n:Aa} {kids:List (List Aa)} (hs:∀ k∈kids,BG k) (hn:(A_ n).length<=100000) (hl:kids.length<=1000) (ht:kids.flatten.length+1<=20000):C7 n kids=some (((D4 n kids).1,(D4 n kids).2,()),()):=by
 unfold C7
 have hnn:(n.1,n.2.1,n.2.2.1,n.2.2.2.1,(kids.length:Int))=nodeN n kids:=rfl
 rw[hnn]
 rcases XN hs hl (by omega) (nodeN n kids) kids.length 0 (by omega) (by simp) with ⟨h1,x,h2⟩ | ⟨h1,x,h2⟩
 ·simp only[List.take_zero,List.map_nil,List.flatten_nil] at h2
  rw[show ((0:Nat):Int)=0 from rfl] at h2
  rw[h2]
  simp only[Ae,Cc,Ca,Az,AE]
  unfold D4
  rw[if_pos h1]
 ·simp only[List.take_zero,List.map_nil,List.flatten_nil] at h2
  rw[show ((0:Nat):Int)=0 from rfl] at h2
  rw[h2]
  simp only[Ae,Bh,Az]
  rw[Sn (n:=nodeN n kids) (show (A_ n).length<=1000000 by omega)]
  simp only[Ae]
  have b1:¬ (¬ ∀ k∈kids,∃ F,VT k F):=fun h=>h h1
  by_cases hf:Bi (nodeN n kids)=true
  ·have hco:=QL (o:=nOp n) (k:=(kids.length:Int)) (by omega)
   have hco':Gk (nodeN n kids).1 (nodeN n kids).2.2.2.2=some ((AQ (nOp n) (kids.length:Int),()),()):=hco
   rw[hf]
   simp only[qY2,AE]
   rw[hco']
   simp only[Ae]
   by_cases hc:AQ (nOp n) kids.length=true
   ·rw[hc]
    simp only[qY2,AE]
    obtain ⟨j1,j2,j3,j4,j5,j6⟩:=Sz h1
    by_cases h15:nOp n=15
    ·have e15:(nodeN n kids).1=15:=h15
     rw[Av e15]
     have hk2:kids.length=2:=by rw[h15] at hc;simp[AQ] at hc;omega
     have hpos:0 < kids.flatten.length:=by
      rw[<-j1,Br];exact Z8 (by rw[j5];omega)
     have e:(nodeN n kids::kids.flatten).getD (1:Int).toNat Ao=kids.flatten.getD 0 Ao:=rfl
     rw[Ap,Ad,Ad (by simp only[qY11];omega),e]
     have e3:(kids.flatten.getD 0 Ao).1=op1 (B7 kids):=(QS j1).symm
     rw[e3]
     by_cases h3:op1 (B7 kids)=3
     ·rw[BX h3]
      exact R7 hs hn hl ht h1 hf hc fun _=>h3
     ·rw[B5 h3]
      unfold D4
      rw[if_neg b1,if_pos (.inr ⟨h15,h3⟩)]
    ·have e15:(nodeN n kids).1≠15:=h15
     rw[Aj e15]
     exact R7 hs hn hl ht h1 hf hc fun h=>absurd h h15
   ·rw[Bool.not_eq_true] at hc
    rw[hc]
    unfold D4
    rw[if_neg b1,if_pos (.inl fun h=>by rw[h.2] at hc;cases hc)]
    rfl
  ·rw[Bool.not_eq_true] at hf
   rw[hf]
   unfold D4
   rw[if_neg b1,if_pos (.inl fun h=>by rw[h.1] at hf;cases hf)]
   rfl
end Go.AM.Num
end
section
namespace Go.AM.Num
open Tf
theorem AEr {f:Tf} (h:∀ {a:Aa} {b:Tf},(a,b)∈roots f->VT (a::b.flat) (cons a b nil)):B7 (BQ f)=f:=by
 induction f with
 |nil=>rfl
 |cons n k r _ ih=>
  have e:BQ (cons n k r)=(n::k.flat)::BQ r:=rfl
  rw[e]
  simp only[B7]
  rw[Ok (h (a:=n) (b:=k) (by simp[roots])),ih fun hm=>h (by simp[roots,hm])]
  rfl
theorem AGc {t:List Aa} {n:Aa} {k:Tf} (h:VT t (cons n k nil)) (j:Int):D4 (n.1,n.2.1,n.2.2.1,n.2.2.2.1,j) (BQ k)=(t,0):=by
 have hk:∀ {a:Aa} {b:Tf},(a,b)∈roots k->VT (a::b.flat) (cons a b nil):=fun hm=>h.kid hm
 have hj:=AEr hk
 obtain ⟨w1,w2,w3,_⟩:=Cp.1 h.wf
 obtain ⟨s1,s2,_⟩:=DB.1 h.srt
 obtain ⟨f1,f2⟩:=FF.1 w1
 have hlen:(BQ k).length=k.len:=by unfold BQ;rw[List.length_map,QC]
 have hn:nodeN (n.1,n.2.1,n.2.2.1,n.2.2.2.1,j) (BQ k)=n:=by
  unfold nodeN
  rw[hlen]
  have:n.2.2.2.2=(k.len:Int):=w2
  rw[<-this]
 have hT:Ce (n.1,n.2.1,n.2.2.1,n.2.2.2.1,j) (BQ k)=cons n k nil:=by unfold Ce;rw[hn,hj]
 unfold D4
 rw[hT,hn,hj,if_neg,if_neg,if_neg,if_neg]
 ·rw[OH,<-h.flat];simp[Tf.flat]
 ·have:=h.dep;omega
 ·rintro (h1 | h1)
  ·rw[LG] at s2
   split at s2
   ·exact s2 rfl
   ·exact s2 h1
  ·exact h1 h.cns
 ·rintro (h1 | h1)
  ·refine h1 ⟨f1,?_⟩
   rw[hlen]
   have:AU n=(k.len:Int):=w2
   rw[this] at f2
   exact f2
  ·rw[LG,if_pos h1] at s2
   exact s2 rfl
 ·intro h1
  refine h1 fun x hx=>?_
  obtain ⟨⟨a,b⟩,hm,rfl⟩:=List.mem_map.1 hx
  exact ⟨_,hk hm⟩
theorem AD7 {t:List Aa} (K:List (List Aa)) (hK:K.length<=20000):∀ (r:Tf) (i most:Nat),K.drop i=BQ r->i<=K.length->most<=20000->r.dep<=20000->(∀ {a:Aa} {b:Tf},(a,b)∈roots r->VT (a::b.flat) (cons a b nil)/\BG (a::b.flat))->
 Am HM (false,t,K,(most:Int),(i:Int),())=some (.exit 0,(false,t,K,((max most r.dep:Nat):Int),(K.length:Int),())):=by
 intro r
 induction r with
 |nil=>
  intro i most hd hi _ _ _
  have hil:i=K.length:=by
   have:=congrArg List.length hd
   simp[BQ,roots] at this
   omega
  subst hil
  refine Ba ?_ (by simp)
  unfold HM
  simp only
  rw[AC]
  simp[Tf.dep]
 |cons n k r _ ih=>
  intro i most hd hi hm hr hall
  have e:BQ (cons n k r)=(n::k.flat)::BQ r:=rfl
  rw[e] at hd
  obtain ⟨g1,g2⟩:=DV (d:=([]:List Aa)) hd
  obtain ⟨v1,v2⟩:=hall (a:=n) (b:=k) (by simp[roots])
  obtain ⟨b,b1,b2⟩:=Z1 v2
  have hb:b=true:=b2.2 ⟨_,v1⟩
  subst hb
  have hdp:=Vh v2 v1
  simp only[Tf.dep] at hdp hr
  have hgo:HM (false,t,K,(most:Int),(i:Int),())=some (.normal,(false,t,K,((max most (k.dep+1):Nat):Int),((i+1:Nat):Int),())):=by
   unfold HM
   simp only
   rw[Aw,Ap,Ad,Ad,qZ0,g1,b1]
   simp only[Ae,qY2,AE]
   rw[Ap,Ad,Ad,hdp]
   simp only[Ae]
   rw[AB]
   have e2:BN (most:Int) ((max (k.dep+1) 0:Nat):Int)=((max most (k.dep+1):Nat):Int):=by unfold BN;split<;>omega
   rw[e2]
   rfl
  rw[A8 hgo,ih (i+1) _ (by have:=congrArg (List.drop 1) hd;rw[List.drop_drop] at this;simpa using this) (by omega) (by omega) (by omega) (fun hm=>hall (by simp[roots,hm]))]
  have e3:max (max most (k.dep+1)) r.dep=max most (cons n k r).dep:=by simp only[Tf.dep];omega
  rw[e3]
theorem ZE (l:List Int):LN l=some ((true,()),()):=by
 unfold LN
 obtain ⟨t,F,e1,hF⟩:=AFp l
 obtain ⟨n,k,rfl⟩:=hF.vt.one
 have hs:BG t:=fun n hn=>by have:=hF.sh n hn;omega
 have hfl:t=n::k.flat:=by rw[<-hF.vt.flat];simp[Tf.flat]
 have hlen:=hF.len
 have hdep:=hF.dep
 simp only[Tf.dep] at hdep
 have hks:k.size+1=t.length:=by rw[hfl,qY11,Br]
 have hkl:=Dz k
 have htl:(BQ k).length=k.len:=by unfold BQ;rw[List.length_map,QC]
 rw[e1]
 simp only[Ae]
 rw[ADG hs hF.vt]
 simp only[Ae]
 have hl:=AD7 (t:=t) (BQ k) (by omega) k 0 0 rfl (by omega) (by omega) (by omega) (fun hm=>⟨hF.vt.kid hm,hs.kid hF.vt hm⟩)
 rw[show ((0:Nat):Int)=0 from rfl] at hl
 rw[hl]
 simp only[Ae,Bh,Az]
 have h0:t.getD (0:Int).toNat Ao=n:=by rw[hfl];rfl
 rw[Ap,Ad,Ad,h0]
 have hw:=(Cp.1 hF.vt.wf).2.1
 have hnn:(A_ n).length<=100000:=hs n (by rw[hfl];simp)
 have hnew:=AGF (n:=(n.1,n.2.1,n.2.2.1,n.2.2.2.1,99)) (kids:=BQ k) (fun x hx=>by
  obtain ⟨⟨a,b⟩,hm,rfl⟩:=List.mem_map.1 hx
  exact hs.kid hF.vt hm) hnn (by omega) (by rw[OH,Br];omega)
 rw[AGc hF.vt] at hnew
 rw[hnew]
 simp only[Ae]
 rw[Av rfl,AGD (by omega),qZ10 rfl]
 simp only[Ae,Az]
 have hd:=Vh hs hF.vt
 simp only[Tf.dep] at hd
 rw[Ap,Ad,Ad,htl,Av (show (k.len:Int)=n.2.2.2.2 from hw.symm),hd]
 simp only[Ae]
 rw[AB,Av,Zg]
 simp only[Ae]
end Go.AM.Num
end
section
namespace Go.AM.Num
open Go.Proofs Go.Proofs.YtppjkoefhkcjfaaGreatDoor
theorem M4 : Tryz.prog.globalNamed "internal/strconv.uint64pow10" = some 5 := by kernel_rfl
theorem AAz:(Tryz.prog.globals[5]?).map (·.type)=some 292:=by kernel_rfl
theorem AGo {W:World} (h:W.ShapedOpen Tryz.prog):∃ m,W.cell? ⟨0,0,none⟩=some (.int .i64 m):=
 cell_of_shapedOpen_int (t:=3) (zero:=#[.int .i64 0]) h (of_decide_eq_true (by kernel_rfl)) (by kernel_rfl) rfl (by kernel_rfl) (by kernel_rfl) Tryz.underlying3
theorem ACn {W:World} (hL:laidMetH Tryz.prog Rows.termRebuildRow.laid W) (hsh:W.ShapedOpen Tryz.prog):GN W:=by
 rw[MakeChecks.laidMetH_plain _ _ _ (by kernel_rfl)] at hL
 obtain ⟨ps,⟨g0,t0,cs0,f0,p0,q0,hg0,ht0,hv0,hd0,⟨g1,t1,cs1,f1,p1,q1,hg1,ht1,hv1,hd1,⟨g2,t2,cs2,f2,p2,q2,hg2,ht2,hv2,hd2,_⟩,_⟩,_⟩,_⟩:=hL
 obtain rfl:=Option.some.inj (M4.symm.trans hg2)
 obtain rfl:=Option.some.inj (AAz.symm.trans ht2)
 refine ⟨AGo hsh,?_⟩
 have e:(Rows.laid_internal_strconv_uint64pow10:DataW Unit)=Lib.tabData .u64 Lib.pow10Tab:=by kernel_rfl
 rw[e] at hd2
 unfold Lib.TabIs
 rw[hv2,<-Lib.cells_of_tab Tryz.underlying292 Tryz.underlying242 (by kernel_rfl) (by kernel_rfl) hd2]
theorem VU {w w':World} (h:GN w) (hb:∀ B,B < 6->w'.heap[B]?=w.heap[B]?):GN w':=by
 have hc:∀ B o,B < 6->w'.cell? ⟨B,o,none⟩=w.cell? ⟨B,o,none⟩:=fun B o hB=>by simp[World.cell?,hb B hB]
 refine ⟨?_,?_⟩
 ·rw[hc _ 0 (by decide)];exact h.maxLen
 ·have:=h.pow10
  unfold Lib.TabIs World.var? at this ⊢
  rw[M4] at this ⊢
  simp only[Option.bind_some] at this ⊢
  rw[hb _ (by decide)]
  exact this
theorem AEY {w:World} (h:GN w):6<=w.heap.size:=by
 obtain ⟨m,hm⟩:=h.maxLen
 have h1:0 < w.heap.size:=World.block_lt_of_cell? w ⟨0,0,none⟩ hm
 have h2:5 < w.heap.size:=by
  have:=h.pow10
  unfold Lib.TabIs World.var? at this
  rw[M4] at this
  simp only[Option.bind_some] at this
  cases hh:w.heap[5]? with
  |none=>rw[hh] at this;simp at this
  |some _=>exact (Array.getElem?_eq_some_iff.1 hh).1
 omega
end Go.AM.Num
end
section
namespace Go.AM.Num
open Go.Proofs
noncomputable def VN:Env where
 P:=Tryz.prog
 gb:=6
 G:=GN
 keep:=fun w w' h _ hb=>VU h hb
 mixed:=by kernel_rfl
theorem f0:Fs Tryz.prog VN l0:=(((((((((((⟨rfl,ADB⟩:Fs Tryz.prog VN []).cons (VP rfl (fun _ h=>h))).cons (Zi rfl (fun _ h=>h))).cons (AEy rfl)).cons (ADD rfl)).cons (Zk rfl (fun _ h=>h))).cons (AHf rfl (fun _ h=>h))).cons (AG6 rfl (fun _ h=>h))).cons (AEM rfl)).cons (AAG rfl)).cons (AFl rfl))
end Go.AM.Num
end
section
namespace Go.AM.Num
open Go.Proofs Go.Proofs.YtppjkoefhkcjfaaGreatDoor Go.RowKit Go.ChangeShapes Go.WideShapes Go.ChangeAt
theorem ADu {k:FuncId} {ps:List PK} {g:Au ps->Option (Au [.val .bool]×BW ps)} (hG:Good VN k ⟨ps,[.val .bool],g⟩) (x:Au ps) (hin:AX ps x=[]) (hk:cntK ps=0) (o:BW ps) (hx:g x=some ((true,()),o))
 (W:World) (hW:GN W) (vs:Array Value) (ha:RelL (Ag W) (fun B=>B < W.heap.size) (fun _=>none) (AY ps x 0 0) vs.toList) :
 Calls Tryz.prog k vs W fun e w'=>e=.returned (.bool true)/\Below W.heap.size W w':=by
 refine Calls.mono (hG.spec x _ o hx W (fun B=>B < W.heap.size) (fun _=>none) vs hW (AEY hW) ?_ ?_) ?_
 ·rw[hin];exact Yk fun _ h=>h
 ·rw[hk];exact ha
 ·rintro e w' ⟨us,I',β',rfl,hf,_,hr⟩
  obtain rfl:us=[.bool true]:=by
   have:E2 ps [.val .bool] (true,())=[.bool true]:=rfl
   rw[this] at hr
   simp only[RelL,RelV] at hr
   obtain ⟨u,us',rfl,rfl,rfl⟩:=hr
   rfl
  refine ⟨rfl,hf.os,hf.tape,hf.output,hf.size,fun B hB=>hf.block B hB ?_⟩
  rw[hin]
  exact G1 B
def IL (l:List Int):Prop:=l.length<=9223372036854775807/\∀ x∈l,Du x
theorem Xb {n:Int} (h:(Lit.int .i64 n).wf=true):Du n:=by
 simp only[Lit.wf,qY0,decide_eq_true_eq] at h
 exact h
theorem AAw {l:List Int} (h:l.length<=maxLen) (hw:∀ x∈l,(Lit.int .i64 x).wf=true):IL l:=⟨by unfold maxLen at h;omega,fun x hx=>Xb (hw x hx)⟩
section
variable {H:Type} {enc:TypeId×Value->H} {W:World} {I:Nat->Prop} {rd:Nat->Nat->Option Value} {β:Nat->Option Place}
theorem AD6:RelL rd I β (AY [] () 0 0) []:=by simp only[AY,RelL]
theorem Wj {t:GT} {ps:List PK} {x:t.ty} {y:Au ps} {v:Value} {vs:List Value} (h:RelV rd I β (Go.AM.enc t x) v) (r:RelL rd I β (AY ps y 0 0) vs):RelL rd I β (AY (.val t::ps) (x,y) 0 0) (v::vs):=by
 simp only[AY,RelL]
 exact ⟨v,vs,rfl,h,r⟩
theorem Yx (a:Addr) (i:Nat) (h:a.spot=none):a.add i=⟨a.block,a.off+i,none⟩:=by
 obtain ⟨b,o,s⟩:=a
 simp only at h;subst h
 simp[Addr.add]
theorem YZ {t e:TypeId} {k:IntKind} {a:Option Addr} {len cap:Nat} {d:DataW H} {p:List MemPlace} (ht:Tryz.prog.underlying t=some (.slice e)) (he:Tryz.prog.underlying e=some (.int k)) (hc:Tryz.prog.cellsOf e=1) (h:DataW.Trod enc Tryz.prog W 0 (fun _=>true) true t (.slice a len cap) d p) :
 ∃ l:List Int,l.length=len/\len<=maxLen/\(∀ x∈l,(Lit.int k x).wf=true)/\TV (Ag W) (fun B=>B < W.heap.size) (.sl (.int k)) l (.slice a len cap):=by
 obtain ⟨fuel,hf⟩:=h
 rcases open_ints ht he hc hf with ⟨hcs,_⟩ | ⟨x,l,c,zs,hcs,_,hl,hm,hz,_,hcell,hwz⟩
 ·simp[Value.cells] at hcs
  obtain ⟨rfl,rfl,rfl⟩:=hcs
  refine ⟨[],rfl,Nat.zero_le _,by simp,?_⟩
  simp only[TV,GT.isAgg,RelC]
  exact ⟨none,0,rfl,Nat.le_refl _,fun h=>absurd rfl h⟩
 ·simp[Value.cells] at hcs
  obtain ⟨rfl,rfl,rfl⟩:=hcs
  simp only[if_true] at hz
  have hzl:zs.length=cap:=by simpa using hz
  refine ⟨zs.take len,by simp;omega,by omega,fun y hy=>hwz y (List.mem_of_mem_take hy),?_⟩
  have hg:∀ i,i < zs.length->W.cell? (x.add i)=some (.int k (zs.getD i 0)):=hcell
  simp only[TV,GT.isAgg,RelC]
  refine ⟨some x,cap,by simp;omega,by simp;omega,fun hne=>?_⟩
  have hpos:0 < zs.length:=by
   have:zs.take len≠[]:=hne
   rcases zs with _ | ⟨z,zs⟩
   ·simp at this
   ·simp
  have hspot:x.spot=none:=by simpa [Addr.add] using World.cell?_spot (hg 0 hpos)
  have hat:∀ i,i < zs.length->W.cell? ⟨x.block,x.off+i,none⟩=some (.int k (zs.getD i 0)):=fun i hi=>by
   rw[<-Yx x i hspot];exact hg i hi
  refine ⟨x.block,x.off,by obtain ⟨b,o,s⟩:=x;simp only at hspot;subst hspot;rfl,World.block_lt_of_cell? W ⟨x.block,x.off+0,none⟩ (hat 0 hpos),fun i z hi=>?_⟩
  have hi1:i < zs.length:=by
   have:=(List.getElem?_eq_some_iff.1 hi).1
   simp at this;omega
  have hzi:zs.getD i 0=z:=by
   rw[List.getElem?_take] at hi
   split at hi
   ·rw[qZ4,hi];rfl
   ·cases hi
  refine ⟨[.int k z],rfl,fun j hj=>?_,rfl⟩
  have:j=0:=by simp[GT.cells] at hj;omega
  subst this
  have:=hat i hi1
  rw[hzi] at this
  have h2:=Pe this rfl
  simpa [GT.cells] using h2
end
noncomputable def JD (os:Os):World:=
 { World.doorLaid Tryz.prog 400 os with heap:=(World.doorLaid Tryz.prog 400 os).heap.modify 3 fun
  |.cells _ t frozen=>.cells (Go.Pinned.utf8FirstZ.map fun n=>Value.int .u8 (n:Nat)).toArray t frozen
  |o=>o }
set_option maxRecDepth 100000 in
theorem ZA (os:Os) (args:Array Value):laidMet Tryz.prog Rows.termRebuildRow.laid ((JD os).forCall (fun _ _=>0) ⟨#[],args,[]⟩).memory:=
 laidMet_of_run' 8 (by kernel_rfl) (by kernel_rfl)
theorem ABg (os:Os) (args:Array Value):(((JD os).forCall (fun _ _=>0) ⟨#[],args,[]⟩).variablesRefB Tryz.prog)=true:=by kernel_rfl
theorem WU (os:Os) (args:Array Value):((((JD os).forCall (fun _ _=>0) ⟨#[],args,[]⟩).heap.toList.drop Tryz.prog.globals.size).take ((begin Tryz.prog (fun _ _=>0) default).world.heap.size - Tryz.prog.globals.size) =
 (begin Tryz.prog (fun _ _=>0) default).world.heap.toList.drop Tryz.prog.globals.size):=by kernel_rfl
theorem own:ownKnob Tryz.prog.godebug=none:=by kernel_rfl
theorem ADR:laidOutB Tryz.prog=true:=by kernel_rfl
end Go.AM.Num
end
section
namespace Go.AM.Num
theorem Z3 (l:List Int) (hl:IL l):LN l=some ((true,()),()):=ZE l
end Go.AM.Num
end
