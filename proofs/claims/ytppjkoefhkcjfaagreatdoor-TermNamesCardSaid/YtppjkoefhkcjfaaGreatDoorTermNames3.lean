/- Law TermNames: a part of its proof. No conditions. -/
import Derived.Test.YtppjkoefhkcjfaaGreatDoorTermNames2
import Derived.LoopNIn
import Derived.RangeFuncLeaves
import Derived.RangeFuncWrites
import Derived.KernelRfl
import Derived.RangeFuncKeeps
import Derived.RangeFuncRecord
import Derived.RangeFuncSeq
import Derived.Lib.Repeat
import Derived.Lib.ParseIntB
import Derived.Lib.Strings
import Derived.Lib.SlTrimSet
import Derived.Lib.Atoi
import Derived.Lib.AtoiAll
import Derived.Lib.ItoaNum
import Derived.Lib.IndexMore
import Derived.Lib.Bytealg
set_option linter.unusedSimpArgs false
set_option linter.unusedVariables false
section
namespace Go.AM
open Go.RowKit (Below)
def Ex.toExit:Ex->Exit
 |.normal=>.normal
 |.exit id=>.exit id
 |.ret=>.ret
def B4 (V:Env) (Γ:Base) (ro:Option Nat) (c:Code) (f:(ρ:Type)->St->(Ex->St->Option ρ)->Option ρ):Prop:=
 ∀ (ρ:Type) (st:St) (K:Ex->St->Option ρ) (z:ρ),f ρ st K=some z->∀ a w,A8 Γ st a w->∀ Q:Exit->Act->World->Prop,
 (∀ ex st' a' w',A8 Γ st' a' w'->K ex st'=some z->Q ex.toExit a' w')->c.wpIn (FR ro) 0 V.P Q a w
def AY:Code->List Code
 |.seq a b=>AY a++AY b
 |.cond _ a b=>AY a++AY b
 |.block _ a=>AY a
 |.loop a=>[.loop a]
 |.rangeFunc g ps a c=>[.rangeFunc g ps a c]
 |.region id ops draw=>if Hz draw ops then [.region id ops draw] else []
 |_=>[]
theorem IZ {st:St} {c:Operand} {b:Bool} (h:st.ev c=.bool b):st.refine c b=st:=by
 cases c with
 |tmp t=>
  refine M4 ?_
  simp only[St.ev,qZ4] at h
  cases hx:st.tmps[t]? with
  |none=>rw[hx] at h;simp at h
  |some x=>rw[hx] at h;simp only[Option.getD_some] at h;rw[h]
 |_=>rfl
section
variable {V:Env} {Γ:Base} {E:Tab} {ro:Option Nat}
theorem CU (hE:TabOK V E) (hg:Γ.gb=V.gb) (h0:V.G Γ.w):∀ (c:Code),(∀ a∈AY c,∀ L,E.lp (Bh a)=some L->B4 V Γ ro a fun ρ=>L.f ρ)->B4 V Γ ro c fun ρ=>run (ρ:=ρ) E c
 |.skip,_=>fun ρ st K z h a w hs Q hQ=>wpIn_skip (hQ .normal st a w hs h)
 |.region id ops draw,hl=>fun ρ st K z h a w hs Q hQ=>by
  simp only[run] at h
  split at h
  ·split at h
   ·rename_i hh
    split at h
    ·rename_i L hL
     exact hl (.region id ops draw) (by simp[AY,hh]) L hL ρ st K z h a w hs Q hQ
    ·cases h
   ·cases h
  ·rename_i hd
   cases draw with
   |false=>exact QT hE hg h0 (fun st' a' w' hs' h'=>hQ .normal st' a' w' hs' h') h hs
   |true=>
    have hd':En E GL ((GZ E id st).map (·.2)) ops=true:=by simpa using hd
    exact Sw hE hg h0 hd' (fun st' a' w' hs' h'=>hQ .normal st' a' w' hs' h') h hs
 |.seq x y,hl=>fun ρ st K z h a w hs Q hQ=>by
  simp only[run] at h
  have ihx:=CU hE hg h0 x fun a ha=>hl a (by simp[AY,ha])
  have ihy:=CU hE hg h0 y fun a ha=>hl a (by simp[AY,ha])
  refine wpIn_seq (ihx ρ st _ z h a w hs _ fun ex st' a' w' hs' h'=>?_)
  cases ex with
  |normal=>exact ihy ρ st' K z h' a' w' hs' Q hQ
  |exit id=>exact hQ (.exit id) st' a' w' hs' h'
  |ret=>exact hQ .ret st' a' w' hs' h'
 |.cond c x y,hl=>fun ρ st K z h a w hs Q hQ=>by
  simp only[run] at h
  split at h
  ·rename_i t ht
   obtain ⟨β,hb⟩:=hs
   have hv:=Ai hb c
   rw[ht] at hv;simp only[RelV] at hv
   refine wpIn_cond hv ?_
   cases t with
   |true=>rw[IZ ht] at h;exact CU hE hg h0 x (fun a ha=>hl a (by simp[AY,ha])) ρ st K z h a w ⟨β,hb⟩ Q hQ
   |false=>rw[IZ ht] at h;exact CU hE hg h0 y (fun a ha=>hl a (by simp[AY,ha])) ρ st K z h a w ⟨β,hb⟩ Q hQ
  ·cases h
 |.block id x,hl=>fun ρ st K z h a w hs Q hQ=>by
  simp only[run] at h
  refine wpIn_block (CU hE hg h0 x (fun a ha=>hl a (by simpa [AY] using ha)) ρ st _ z h a w hs _ fun ex st' a' w' hs' h'=>?_)
  cases ex with
  |normal=>exact hQ .normal st' a' w' hs' h'
  |exit id'=>
   simp only[Ex.toExit,Exit.inBlock]
   simp only at h'
   split at h'
   ·rename_i e;rw[if_pos e];exact hQ .normal st' a' w' hs' h'
   ·rename_i e;rw[if_neg e];exact hQ (.exit id') st' a' w' hs' h'
  |ret=>exact hQ .ret st' a' w' hs' h'
 |.exit id,_=>fun ρ st K z h a w hs Q hQ=>wpIn_exit (hQ (.exit id) st a w hs h)
 |.ret,_=>fun ρ st K z h a w hs Q hQ=>wpIn_ret (hQ .ret st a w hs h)
 |.loop x,hl=>fun ρ st K z h a w hs Q hQ=>by
  simp only[run] at h
  split at h
  ·rename_i L hL
   exact hl (.loop x) (by simp[AY]) L hL ρ st K z h a w hs Q hQ
  ·cases h
 |.rangeFunc g ps x c,hl=>fun ρ st K z h a w hs Q hQ=>by
  simp only[run] at h
  split at h
  ·rename_i L hL
   exact hl (.rangeFunc g ps x c) (by simp[AY]) L hL ρ st K z h a w hs Q hQ
  ·cases h
 |.label ..,_ | .goto ..,_ | .scope ..,_ | .refuse ..,_=>fun ρ st K z h a w hs Q hQ=>by simp[run] at h
end
inductive LoopN {α:Type} (step:α->Option (Ex×α)):Nat->α->Ex×α->Prop where
 |done {x y:α} {ex:Ex} (h:step x=some (ex,y)) (hx:ex≠.normal):LoopN step 0 x (ex,y)
 |more {x y:α} {n:Nat} {r:Ex×α} (h:step x=some (.normal,y)) (hn:LoopN step n y r):LoopN step (n+1) x r
theorem LoopN.det {α:Type} {step:α->Option (Ex×α)} {n:Nat} {x:α} {r:Ex×α} (h:LoopN step n x r):∀ {m:Nat} {r':Ex×α},LoopN step m x r'->r=r':=by
 induction h with
 |done h hx=>
  intro m r' h'
  cases h' with
  |done h2 _=>rw[h] at h2;cases h2;rfl
  |more h2 _=>rw[h] at h2;cases h2;exact absurd rfl hx
 |more h _ ih=>
  intro m r' h'
  cases h' with
  |done h2 hx=>rw[h] at h2;cases h2;exact absurd rfl hx
  |more h2 hn=>rw[h] at h2;cases h2;exact ih hn
open Classical in
noncomputable def Cn {α:Type} (step:α->Option (Ex×α)) (x:α):Option (Ex×α):=
 if h:∃ r n,LoopN step n x r then some h.choose else none
theorem Dd {α:Type} {step:α->Option (Ex×α)} {x:α} {r:Ex×α}:Cn step x=some r ↔ ∃ n,LoopN step n x r:=by
 unfold Cn
 constructor
 ·intro h
  split at h
  ·rename_i hh
   cases h
   exact hh.choose_spec
  ·cases h
 ·rintro ⟨n,h⟩
  rw[dif_pos ⟨r,n,h⟩]
  have hh:∃ r n,LoopN step n x r:=⟨r,n,h⟩
  obtain ⟨m,hm⟩:=hh.choose_spec
  exact congrArg some (hm.det h)
theorem JT {α:Type} (step:α->Option (Ex×α)) (x:α):Cn step x=match step x with
 |some (.normal,y)=>Cn step y
 |r=>r:=by
 cases hs:step x with
 |none=>
  simp only
  cases h:Cn step x with
  |none=>rfl
  |some r=>
   obtain ⟨n,hn⟩:=Dd.1 h
   cases hn with
   |done h2 _=>rw[hs] at h2;cases h2
   |more h2 _=>rw[hs] at h2;cases h2
 |some r=>
  obtain ⟨ex,y⟩:=r
  cases ex with
  |normal=>
   simp only
   cases h:Cn step y with
   |none=>
    cases h':Cn step x with
    |none=>rfl
    |some r=>
     obtain ⟨n,hn⟩:=Dd.1 h'
     cases hn with
     |done h2 hx=>rw[hs] at h2;cases h2;exact absurd rfl hx
     |more h2 hn=>rw[hs] at h2;cases h2;rw[Dd.2 ⟨_,hn⟩] at h;cases h
   |some r=>
    obtain ⟨n,hn⟩:=Dd.1 h
    exact Dd.2 ⟨n+1,.more hs hn⟩
  |exit id=>exact Dd.2 ⟨0,.done hs (by simp)⟩
  |ret=>exact Dd.2 ⟨0,.done hs (by simp)⟩
noncomputable def FT {α:Type} (step:α->Option (Ex×α)):Nat->α->Option (Ex×α)
 |0,x=>Cn step x
 |n+1,x=>match step x with
  |some (.normal,y)=>FT step n y
  |r=>r
theorem Rh {α:Type} (step:α->Option (Ex×α)) (n:Nat):∀ x,FT step n x=Cn step x:=by
 induction n with
 |zero=>intro x;rfl
 |succ n ih=>
  intro x
  rw[JT,FT]
  split
  ·exact ih _
  ·rfl
@[irreducible] noncomputable def An {α : Type} (step : α → Option (Ex × α)) (x : α) : Option (Ex × α) := FT step 1000000 x
theorem Ha {α:Type} (step:α->Option (Ex×α)) (x:α):An step x=Cn step x:=by unfold An;exact Rh step _ x
theorem Jm {α:Type} {step:α->Option (Ex×α)} {x:α} {r:Ex×α}:An step x=some r ↔ ∃ n,LoopN step n x r:=by rw[Ha];exact Dd
theorem Jy {α:Type} (step:α->Option (Ex×α)) (x:α):An step x=match step x with
 |some (.normal,y)=>An step y
 |r=>r:=by
 rw[Ha,JT]
 split
 ·exact (Ha step _).symm
 ·rfl
end Go.AM
end
section
namespace Go.AM
open Go.RowKit (Below)
theorem DD:∀ (ts:List Nat) (azs l:List AV),(DG ts azs l).length=l.length
 |[],_,_=>rfl
 |_::_,[],_=>rfl
 |t::ts,a::azs,l=>by simp only[DG];rw[DD,List.length_set]
theorem EU:∀ (ts:List Nat) (azs l:List AV) (t:Nat) (y:AV),(DG ts azs l)[t]?=some y->l[t]?=some y\/∃ i:Nat,ts[i]?=some t/\azs[i]?=some y
 |[],_,_,_,_,h=>.inl h
 |_::_,[],_,_,_,h=>.inl h
 |s::ts,a::azs,l,t,y,h=>by
  simp only[DG] at h
  rcases EU ts azs _ t y h with h | ⟨i,h1,h2⟩
  ·by_cases e:s=t
   ·subst e
    rw[List.getElem?_set] at h
    simp only[if_true] at h
    split at h
    ·cases h;exact .inr ⟨0,rfl,rfl⟩
    ·cases h
   ·rw[List.getElem?_set_ne e] at h;exact .inl h
  ·exact .inr ⟨i+1,by simpa using h1,by simpa using h2⟩
section
variable {V:Env} {Γ:Base} {ro:Option Nat}
theorem GP {a:Act} {w:World} {β:Nat->Option Place} {st:St} (hs:SimB Γ st a w β) (slots:List Nat):RelL (Ac w) (Γ.after w β st.heap) β (slots.map fun t=>st.tmps.getD t .any) (slots.map fun t=>a.eval (.tmp t)):=by
 have:=Cs hs (slots.map Operand.tmp)
 simpa [St.ev,Function.comp_def] using this
theorem Fa {a:Act} {t:Nat} (h:t < a.tmps.size):a.tmps[t]?=some (a.eval (.tmp t)):=by
 simp[Act.eval,Array.getD_eq_getD_getElem?,h]
theorem Nb {A:Ann} {st:St} {x:Ah A.ps} (hd:Cc A st=some x) {a:Act} {w:World} {β:Nat->Option Place} (hs:SimB Γ st a w β):∃ β',SimB Γ (encSt A x) a w β'/\∀ B,Γ.after w β st.heap B->Γ.after w β' (encSt A x).heap B:=by
 unfold Cc at hd
 split at hd
 case h_2=>cases hd
 rename_i x' s t m hx
 split at hd
 case isFalse=>cases hd
 rename_i hc
 cases hd
 obtain ⟨hn,hc⟩:=hc
 simp only[qY0,decide_eq_true_eq] at hc
 obtain ⟨⟨⟨hnd,hdj⟩,hog⟩,hwh⟩:=hc
 obtain ⟨zs,zt,D⟩:=B7 hs.ctx [] A.ps _ _ x s t m (GP hs A.slots) hx
 obtain ⟨hctx,hrel⟩:=If hs D hnd hdj
 have hrZ:∀ z∈zs++zt,Bq β st.heap z:=fun z hz=>(List.mem_append.1 hz).elim (D.refs z) (D.reft z)
 have hids:Al (s++t)=Al ((zs++zt).map (·.1)):=by rw[List.map_append,<-D.s_eq,<-D.t_eq]
 have hlenZ:(Ax A.ps x).length=(zs++zt).length:=by rw[EC,qZ6,D.lenK,D.lenN]
 have hI:∀ B,AX (Γ.after w β st.heap) β m B->Γ.after w (AN (zs++zt)) (Ax A.ps x) B:=by
  intro B hB
  refine ⟨(hctx.imm B hB).1,?_,(hctx.imm B hB).2⟩
  rcases hB with hB | ⟨b,hb,p,hp,hk,rfl⟩
  ·exact hB.2.1
  ·obtain ⟨r,hr⟩:=D.alive b hb
   rcases hs.own b r p hr hp hk with h' | h'
   ·exact .inr (.inr h')
   ·exact .inr (.inl h')
 have hm:Mono (Ac w) (AX (Γ.after w β st.heap) β m) (Ac w) (Γ.after w (AN (zs++zt)) (Ax A.ps x)):=⟨hI,fun _ _ _ _ h=>h⟩
 refine ⟨AN (zs++zt),⟨⟨fun i r hr=>?_,hctx.apart,fun B hB=>⟨hB.1,hB.2.2⟩,hctx.dom⟩,hs.frm,?_,fun t y hy=>?_,hs.defers,fun j i hj=>?_,hs.gbw,hs.low,fun i r q hr hq hk=>?_⟩,fun B hB=>hI B (.inl hB)⟩
 ·obtain ⟨p,hp,h1,h2⟩:=hctx.rows i r hr
  exact ⟨p,hp,h1,Ck hm (fun _ _ h=>h) (fun _=>rfl) r h2⟩
 ·simp only[encSt,DD,List.length_replicate];rw[<-hn];exact hs.len
 ·have ht:t < A.n:=by
   have:=(List.getElem?_eq_some_iff.1 hy).1
   simpa [encSt,DD] using this
  have hta:t < a.tmps.size:=by rw[<-hs.len,hn];exact ht
  refine ⟨_,Fa hta,?_⟩
  rcases EU _ _ _ t y hy with h | ⟨i,h1,h2⟩
  ·simp only[List.getElem?_replicate,ht,if_true,Option.some.injEq] at h
   subst h;simp[RelV]
  ·obtain ⟨v,hv,hr⟩:=BS _ _ hrel i y h2
   simp only[List.getElem?_map,h1,Option.map_some,Option.some.injEq] at hv
   subst hv
   exact BA hm (fun _ _ h=>h) _ _ hr
 ·have hj':st.orig[j]?=some ((Al (s++t)).getD i st.heap.length):=by
   rw[hog,List.getElem?_map]
   have:A.og[j]?=some i:=hj
   rw[this];rfl
  obtain ⟨o1,o2,o3⟩:=hs.orig j _ hj'
  cases hid:(Al (s++t))[i]? with
  |none=>rw[qZ4,hid] at o2;simp at o2
  |some b=>
   rw[qZ4,hid] at o1 o2 o3
   simp only[Option.getD_some] at o1 o2 o3
   rw[hids,Gx _ hrZ] at hid
   obtain ⟨z,hz,hzb⟩:=Option.bind_eq_some_iff.1 hid
   obtain ⟨b',p,r0,c1,c2,c3,c4,c5,c6,_⟩:=hrZ z (qY14 hz)
   rw[hzb] at c1;cases c1
   have hw:z.1.whole=true:=by
    have:=List.all_eq_true.1 hwh i (qY14 hj)
    rw[D.s_eq,D.t_eq,<-List.map_append,qZ4,List.getElem?_map,hz] at this
    exact this
   have hpz:AN (zs++zt) i=some p:=by simp only[AN,hz,Option.map_some];rw[c6 hw]
   refine ⟨by rw[hpz,<-c3];exact o1,?_,fun r' p' _ hp hk=>?_⟩
   ·have:=(List.getElem?_eq_some_iff.1 hz).1
    show i < (Ax A.ps x).length
    omega
   ·rw[hpz] at hp;cases hp
    exact o3 r0 _ c2 c3 hk
 ·have hi:=(List.getElem?_eq_some_iff.1 hr).1
  obtain ⟨z,hz⟩:∃ z,(zs++zt)[i]?=some z:=⟨_,qZ5 (by have:i < (Ax A.ps x).length:=hi;omega)⟩
  obtain ⟨b',p,r0,c1,c2,c3,c4,c5,_⟩:=hrZ z (qY14 hz)
  simp only[AN,hz,Option.map_some,Option.some.injEq] at hq
  subst hq
  rw[c4]
  exact hs.own b' r0 p c2 c3 (c5 ▸ hk)
theorem DK {A:Ann} {st:St} {x:Ah A.ps} (hd:Cc A st=some x) {a:Act} {w:World} (hs:A8 Γ st a w):A8 Γ (encSt A x) a w:=by
 obtain ⟨β,hs⟩:=hs
 obtain ⟨β',h,_⟩:=Nb hd hs
 exact ⟨β',h⟩
theorem QV {a:Act} {t:Nat} {v:Value} (h:a.tmps[t]?=some v):a.put (some t) v=a:=by
 obtain ⟨tmps,d⟩:=a
 simp only[Act.put]
 congr 1
 apply Array.ext_getElem?
 intro i
 rw[Array.getElem?_setIfInBounds]
 split
 ·rename_i e;subst e
  simp only at h
  rw[h,if_pos (Array.getElem?_eq_some_iff.1 h).1]
 ·rfl
theorem QK (A:Ann) {st:St} {a:Act} {w:World} {β:Nat->Option Place} (hs:SimB Γ st a w β):∃ β',SimB Γ (B3 A st) a w β'/\∀ B,Γ.after w β st.heap B->Γ.after w β' (B3 A st).heap B:=by
 obtain ⟨β',L,hr⟩:=C1 A.ps _ _ hs (GP hs A.slots)
 refine ⟨β',⟨L.sim.ctx,L.sim.frm,?_,fun t y hy=>?_,L.sim.defers,L.sim.orig,L.sim.gbw,L.sim.low,L.sim.own⟩,L.mono.imm⟩
 ·simp only[B3,DD];exact hs.len
 ·have ht:t < a.tmps.size:=by
   have:=(List.getElem?_eq_some_iff.1 hy).1
   simp only[B3,DD] at this
   rw[<-hs.len];exact this
  refine ⟨_,Fa ht,?_⟩
  rcases EU _ _ _ t y hy with h | ⟨i,h1,h2⟩
  ·obtain ⟨v,hv,hrel⟩:=L.sim.tmps t y h
   rw[Fa ht] at hv;cases hv
   exact hrel
  ·obtain ⟨v,hv,hrel⟩:=BS _ _ hr i y h2
   simp only[List.getElem?_map,h1,Option.map_some,Option.some.injEq] at hv
   subst hv
   exact hrel
theorem DO (A:Ann) {st:St} {a:Act} {w:World} (hs:A8 Γ st a w):A8 Γ (B3 A st) a w:=by
 obtain ⟨β,hs⟩:=hs
 obtain ⟨β',h,_⟩:=QK A hs
 exact ⟨β',h⟩
theorem Fq:∀ (ts:List Nat) {st:St} {a:Act} {w:World},A8 Γ st a w->A8 Γ (CV ts st) a w
 |[],_,_,_,h=>h
 |t::ts,st,a,w,h=>by
  simp only[CV]
  split
  ·rename_i b ht
   split
   ·rename_i e l hb
    refine Fq ts ?_
    obtain ⟨β,hs⟩:=h
    have htt:st.tmps[t]?=some (.vw b):=by
     rw[qZ4] at ht
     cases hh:st.tmps[t]? with
     |none=>rw[hh] at ht;cases ht
     |some y=>rw[hh] at ht;rw[<-ht];rfl
    obtain ⟨v,h1,h2⟩:=hs.tmps t _ htt
    obtain ⟨k1,k2⟩:=In (H':=st.heap.set b none) hs List.length_set (fun b' r hr=>by
     rw[List.getElem?_set] at hr
     split at hr
     ·split at hr<;>simp at hr
     ·exact hr)
    obtain ⟨u1,u2,hu,hrel,hnil⟩:=C6 hs.ctx (.sl e) [.vw b] [v] l [] [b] (by simp only[RelL];exact ⟨v,[],rfl,h2,rfl⟩) (by simp[decC,hb])
    simp only[RelL] at hnil;subst hnil
    simp only[qY4] at hu;subst hu
    have hm:Mono (Ac w) (AX (Γ.after w β st.heap) β [b]) (Ac w) (Γ.after w β (st.heap.set b none)):=⟨fun B hB=>k2 B (by
     rcases hB with hB | ⟨b',hb',p,hp,hk,rfl⟩
     ·exact .inl hB
     ·simp only[qZ8] at hb'
      subst hb'
      refine .inr ⟨⟨b',_,p,hb,hp,hk,rfl⟩,?_⟩
      rintro ⟨b2,r2,p2,e1,e2,e3,e4⟩
      rw[List.getElem?_set] at e1
      split at e1
      ·split at e1<;>simp at e1
      ·rename_i hne
       exact hne (hs.ctx.apart b2 b' _ _ p2 p e1 hb e2 hp e3 hk e4).symm),fun _ _ _ _ h=>h⟩
    have:=k1.put (some t) (x:=.sl e false l) (v:=v) (by simp only[RelV];exact ⟨relC_mono hm _ _ _ hrel,by simp⟩)
    rw[QV h1] at this
    exact ⟨β,this⟩
   ·exact Fq ts h
  ·exact Fq ts h
noncomputable def H3 (A:Ann) (exs:List Ex) (step:Ah A.ps->Option (Ex×Ah A.ps)):LoopO:=⟨fun _ st K=>(Cc A (B3 A st)).bind fun x=>(An step x).bind fun r=>EK r.1 exs fun e=>K e (CV A.fz (encSt A r.2))⟩
theorem Iy {ρ:Type} {x:Ex} {k:Ex->Option ρ} {z:ρ}:∀ {es:List Ex},EK x es k=some z->k x=some z
 |[],h=>by cases h
 |e::es,h=>by
  simp only[EK,Ex.same] at h
  by_cases hx:x=e
  ·simp only[hx,decide_true,cond_true] at h;rw[hx];exact h
  ·simp only[hx,decide_false,cond_false] at h;exact Iy h
theorem SB {E:Tab} (hE:TabOK V E) (hg:Γ.gb=V.gb) (h0:V.G Γ.w) {A:Ann} {exs:List Ex} {step:Ah A.ps->Option (Ex×Ah A.ps)} {c:Code} (hl:∀ a∈AY c,∀ L,E.lp (Bh a)=some L->B4 V Γ ro a fun ρ=>L.f ρ)
 (hstep:∀ x,run E c (encSt A x) (fun ex st'=>(Cc A (B3 A st')).bind fun y=>some (ex,y))=step x):B4 V Γ ro (.loop c) fun ρ=>(H3 A exs step).f ρ:=by
 intro ρ st K z h a w hs Q hQ
 simp only[H3] at h
 obtain ⟨x,hx,h⟩:=AF h
 obtain ⟨⟨ex,y⟩,hr,h⟩:=AF h
 have h:=Iy h
 obtain ⟨n,hn⟩:=Jm.1 hr
 have body:=CU hE hg h0 c hl
 have key:∀ n x a w,A8 Γ (encSt A x) a w->LoopN step n x (ex,y)->Code.roundsIn (FR ro) 0 V.P c Q (n+1) a w:=by
  intro n
  induction n with
  |zero=>
   intro x a w hs hn
   cases hn with
   |done h1 hne=>
    rw[<-hstep] at h1
    refine body _ _ _ _ h1 a w hs _ fun ex' st' a' w' hs' h'=>?_
    obtain ⟨y',hy,h'⟩:=AF h'
    cases h'
    have:=hQ ex (CV A.fz (encSt A y)) a' w' (Fq _ (DK hy (DO A hs'))) h
    cases ex with
    |normal=>exact absurd rfl hne
    |exit id=>exact this
    |ret=>exact this
  |succ n ih=>
   intro x a w hs hn
   cases hn with
   |more h1 hm=>
    rw[<-hstep] at h1
    refine body _ _ _ _ h1 a w hs _ fun ex' st' a' w' hs' h'=>?_
    obtain ⟨y',hy,h'⟩:=AF h'
    cases h'
    exact ih _ a' w' (DK hy (DO A hs')) hm
 exact wpIn_loop_rounds _ (key n x a w (DK hx (DO A hs)) hn)
def Hh {α β:Type} (step:α->Option (Ex×(α ⊕ β))) (s:α ⊕ β):Option (Ex×(α ⊕ β)):=Sum.elim step (fun _=>none) s
def DI (A R:Ann) (ex:Ex) (st:St):Option (Ex×(Ah A.ps ⊕ Ah R.ps)):=cond (ex.same .ret) ((Cc R (B3 R st)).bind fun y=>some (.ret,.inr y)) ((Cc A (B3 A st)).bind fun y=>some (ex,.inl y))
noncomputable def IH (A R:Ann) (exs:List Ex) (step:Ah A.ps->Option (Ex×(Ah A.ps ⊕ Ah R.ps))):LoopO:=⟨fun _ st K=>(Cc A (B3 A st)).bind fun x=>(An (Hh step) (.inl x)).bind fun r=>Sum.elim (fun y=>EK r.1 exs fun e=>K e (CV A.fz (encSt A y))) (fun y=>K .ret (encSt R y)) r.2⟩
theorem OP {E:Tab} (hE:TabOK V E) (hg:Γ.gb=V.gb) (h0:V.G Γ.w) {A R:Ann} {exs:List Ex} {step:Ah A.ps->Option (Ex×(Ah A.ps ⊕ Ah R.ps))} {c:Code} (hl:∀ a∈AY c,∀ L,E.lp (Bh a)=some L->B4 V Γ ro a fun ρ=>L.f ρ)
 (hstep:∀ x,run E c (encSt A x) (DI A R)=step x):B4 V Γ ro (.loop c) fun ρ=>(IH A R exs step).f ρ:=by
 intro ρ st K z h a w hs Q hQ
 simp only[IH] at h
 obtain ⟨x,hx,h⟩:=AF h
 obtain ⟨⟨ex,y⟩,hr,h⟩:=AF h
 obtain ⟨n,hn⟩:=Jm.1 hr
 have body:=CU hE hg h0 c hl
 have key:∀ n x a w,A8 Γ (encSt A x) a w->LoopN (Hh step) n (.inl x) (ex,y)->Code.roundsIn (FR ro) 0 V.P c Q (n+1) a w:=by
  intro n
  induction n with
  |zero=>
   intro x a w hs hn
   cases hn with
   |done h1 hne=>
    have h1:step x=some (ex,y):=h1
    rw[<-hstep] at h1
    refine body _ _ _ _ h1 a w hs _ fun ex' st' a' w' hs' h'=>?_
    by_cases hret:ex'=.ret
    ·subst hret
     simp only[DI,Ex.same,decide_true,cond_true] at h'
     obtain ⟨y',hy,h'⟩:=AF h'
     cases h'
     exact hQ .ret (encSt R y') a' w' (DK hy (DO R hs')) h
    ·simp only[DI,Ex.same,hret,decide_false,cond_false] at h'
     obtain ⟨y',hy,h'⟩:=AF h'
     cases h'
     have h:=Iy (x:=ex) h
     have:=hQ ex (CV A.fz (encSt A y')) a' w' (Fq _ (DK hy (DO A hs'))) h
     cases ex with
     |normal=>exact absurd rfl hne
     |exit id=>exact this
     |ret=>exact absurd rfl hret
  |succ n ih=>
   intro x a w hs hn
   cases hn with
   |more h1 hm=>
    rename_i y1
    have h1:step x=some (.normal,y1):=h1
    rw[<-hstep] at h1
    refine body _ _ _ _ h1 a w hs _ fun ex' st' a' w' hs' h'=>?_
    by_cases hret:ex'=.ret
    ·subst hret
     simp only[DI,Ex.same,decide_true,cond_true] at h'
     obtain ⟨y',hy,h'⟩:=AF h'
     cases h'
    ·simp only[DI,Ex.same,hret,decide_false,cond_false] at h'
     obtain ⟨y',hy,h'⟩:=AF h'
     cases h'
     exact ih _ a' w' (DK hy (DO A hs')) hm
 exact wpIn_loop_rounds _ (key n x a w (DK hx (DO A hs)) hn)
end
end Go.AM
end
section
namespace Go.AM
open Go.RowKit (Below)
def GM (E:Tab) (st:St):ResultVar->Option AV
 |.tmp t=>st.tmps[t]?
 |.cell a t=>match E.ti t,st.heap.at (st.tmps.getD a .any) with
  |some i,some (l,k)=>if st.heap.there (st.tmps.getD a .any) then DA i l k else none
  |_,_=>none
def Gs (E:Tab) (st:St):List ResultVar->Option (List AV)
 |[]=>some []
 |r::rs=>match GM E st r with
  |some a=>match Gs E st rs with
   |some l=>some (a::l)
   |none=>none
  |none=>none
def outA:List PK->List Nat->List AV
 |.box _::ps,b::og=>.ptr b 0 0::outA ps og
 |.row _::ps,b::og=>.vw b::outA ps og
 |.mp _::ps,b::og=>.mp b::outA ps og
 |.val _::ps,og=>outA ps og
 |.own _::ps,og=>outA ps og
 |.obj _::ps,og=>outA ps og
 |.view _::ps,og=>outA ps og
 |_,_=>[]
def DF (E:Tab) (rs:List ResultVar) (ps rk:List PK) (st:St):Option (Ah rk×A_ ps):=
 match Gs E st rs with
 |some azs=>
  if st.orig.length=cntK ps then
   let L1:=lift (opsOf ps) (outA ps st.orig) st.heap
   let L2:=lift rk azs L1.2
   match Aq L2.2 [] (opsOf ps) L1.1,Aq L2.2 L1.1 rk L2.1 with
   |some (o,s1,t1,m1),some (y,s2,t2,m2)=>if Bg (Al ((s1++t1)++(s2++t2)))&&Bm (Al ((s1++t1)++(s2++t2))) (m1++m2)&&s1.all AV.whole then some (y,o) else none
   |_,_=>none
  else none
 |none=>none
def Lo (n:Nat) (ps:List PK) (x:Ah ps):St:=⟨AA ps x 0 (cntK ps)++List.replicate (n - ps.length) .undef,Ax ps x,List.range (cntK ps)⟩
def Gl (E:Tab) (n:Nat) (rs:List ResultVar) (c:Code) (ps rk:List PK) (x:Ah ps):Option (Ah rk×A_ ps):=
 run E c (Lo n ps x) fun ex st=>match ex with
  |.exit _=>none
  |_=>DF E rs ps rk st
theorem FD:∀ (ps:List PK) (x:Ah ps) (k j:Nat),(AA ps x k j).length=ps.length
 |[],_,_,_=>rfl
 |p::ps,x,k,j=>by cases p<;>simp[AA,FD ps]
theorem Nn {rd:Nat->Nat->Option Value} {I:Nat->Prop} {β:Nat->Option Place}:∀ (ps:List PK) (x:Ah ps) (k j:Nat) (vs:List Value),RelL rd I β (AA ps x k j) vs->∃ ws,∀ (rd':Nat->Nat->Option Value) (I':Nat->Prop) (β':Nat->Option Place) (og:List Nat),og.length=cntK ps->
 (∀ (i b:Nat),og[i]?=some b->β' b=β (k+i))->RelL rd' I' β' (outA ps og) ws
 |[],_,_,_,_,_=>⟨[],fun _ _ _ og _ _=>by cases og<;>simp[outA,RelL]⟩
 |p::ps,x,k,j,vs,h=>by
  cases p<;>simp only[AA,RelL] at h<;>obtain ⟨v,vs',rfl,h1,h2⟩:=h<;>obtain ⟨ws,hw⟩:=Nn ps x.2 _ _ vs' h2
  case box f=>
   refine ⟨v::ws,fun rd' I' β' og hl hog=>?_⟩
   cases og with
   |nil=>simp[cntK] at hl
   |cons b og=>
    simp only[outA,RelL]
    refine ⟨v,ws,rfl,?_,hw rd' I' β' og (by simpa [cntK] using hl) fun i b' hb=>by rw[Nat.add_assoc,Nat.add_comm 1 i];exact hog (i+1) b' (by simpa using hb)⟩
    simp only[RelV] at h1 ⊢
    rw[hog 0 b rfl];exact h1
  case row e=>
   refine ⟨v::ws,fun rd' I' β' og hl hog=>?_⟩
   cases og with
   |nil=>simp[cntK] at hl
   |cons b og=>
    simp only[outA,RelL]
    refine ⟨v,ws,rfl,?_,hw rd' I' β' og (by simpa [cntK] using hl) fun i b' hb=>by rw[Nat.add_assoc,Nat.add_comm 1 i];exact hog (i+1) b' (by simpa using hb)⟩
    simp only[RelV] at h1 ⊢
    rw[hog 0 b rfl];exact h1
  case mp t=>
   refine ⟨v::ws,fun rd' I' β' og hl hog=>?_⟩
   cases og with
   |nil=>simp[cntK] at hl
   |cons b og=>
    simp only[outA,RelL]
    refine ⟨v,ws,rfl,?_,hw rd' I' β' og (by simpa [cntK] using hl) fun i b' hb=>by rw[Nat.add_assoc,Nat.add_comm 1 i];exact hog (i+1) b' (by simpa using hb)⟩
    simp only[RelV] at h1 ⊢
    rw[hog 0 b rfl];exact h1
  all_goals exact ⟨ws,fun rd' I' β' og hl hog=>by cases og<;>exact hw rd' I' β' _ (by simpa [cntK] using hl) hog⟩
theorem D5:∀ (ps:List PK) (og:List Nat),og.length=cntK ps->∀ (i:Nat) x,(outA ps og)[i]?=some x->∃ b,og[i]?=some b/\x.row=some b
 |[],og,_,i,x,h=>by cases og<;>simp[outA] at h
 |p::ps,og,hl,i,x,h=>by
  cases p
  case box f=>cases og with
   |nil=>simp[cntK] at hl
   |cons b og=>cases i with
    |zero=>simp[outA] at h;subst h;exact ⟨b,rfl,rfl⟩
    |succ i=>simpa using D5 ps og (by simpa [cntK] using hl) i x (by simpa [outA] using h)
  case row f=>cases og with
   |nil=>simp[cntK] at hl
   |cons b og=>cases i with
    |zero=>simp[outA] at h;subst h;exact ⟨b,rfl,rfl⟩
    |succ i=>simpa using D5 ps og (by simpa [cntK] using hl) i x (by simpa [outA] using h)
  case mp f=>cases og with
   |nil=>simp[cntK] at hl
   |cons b og=>cases i with
    |zero=>simp[outA] at h;subst h;exact ⟨b,rfl,rfl⟩
    |succ i=>simpa using D5 ps og (by simpa [cntK] using hl) i x (by simpa [outA] using h)
  all_goals exact D5 ps og (by simpa [cntK] using hl) i x (by cases og<;>exact h)
theorem ops_refs {H:Ae} {V:List AV}:∀ (ps:List PK) (azs:List AV) (x:A_ ps) (s t:List AV) (m:List Nat),Aq H V (opsOf ps) azs=some (x,s,t,m)->s=azs
 |[],azs,x,s,t,m,h=>by cases azs<;>simp[Aq,opsOf] at h;exact h.1
 |p::ps,azs,x,s,t,m,h=>by
  cases p
  case box f=>
   cases azs with
   |nil=>simp[opsOf,Aq] at h
   |cons a azs=>
    cases a<;>(try simp[opsOf,Aq] at h;done)
    rename_i b i k
    cases i with
    |succ i=>simp[opsOf,Aq] at h
    |zero=>cases k with
     |succ k=>simp[opsOf,Aq] at h
     |zero=>
      simp only[opsOf,Aq] at h
      split at h
      ·split at h
       ·split at h
        ·rename_i hr;cases h;rw[ops_refs ps azs _ _ _ _ hr]
        ·cases h
       ·cases h
      ·cases h
  case row e=>
   cases azs with
   |nil=>simp[opsOf,Aq] at h
   |cons a azs=>
    simp only[opsOf,Aq] at h
    split at h
    ·split at h
     ·rename_i hr;cases h;rw[ops_refs ps azs _ _ _ _ hr]
     ·cases h
    ·cases h
  case mp t0=>
   cases azs with
   |nil=>simp[opsOf,Aq] at h
   |cons a azs=>
    cases a<;>(try simp[opsOf,Aq] at h;done)
    simp only[opsOf,Aq] at h
    split at h
    ·split at h
     ·split at h
      ·rename_i hr;cases h;rw[ops_refs ps azs _ _ _ _ hr]
      ·cases h
     ·cases h
    ·cases h
  all_goals exact ops_refs ps azs x s t m h
theorem Eo:∀ (ps:List PK) (og:List Nat) (H:Ae),(lift (opsOf ps) (outA ps og) H).1=outA ps og
 |[],og,H=>by cases og<;>rfl
 |p::ps,og,H=>by
  cases p
  case box f=>cases og with
   |nil=>rfl
   |cons b og=>simp only[opsOf,outA,lift];rw[Eo ps og]
  case row e=>cases og with
   |nil=>rfl
   |cons b og=>simp only[opsOf,outA,lift,A4];rw[Eo ps og]
  case mp t=>cases og with
   |nil=>rfl
   |cons b og=>simp only[opsOf,outA,lift];rw[Eo ps og]
  all_goals exact (by cases og<;>exact Eo ps _ H)
section
variable {V:Env} {E:Tab}
def resS (tmps:Array Value):ResultVar->Sem Value
 |.tmp t=>pure (tmps.getD t undef)
 |.cell c t=>do loadVar t (<-asAddr (tmps.getD c undef))
theorem Qc (fn:Func) (tmps:Array Value):results fn tmps=(do let vs<-fn.results.mapM (resS tmps);pure (if h:vs.size=1 then vs[0] else .tuple vs)):=by
 unfold results
 congr 1
theorem N8 (hE:TabOK V E) {Γ:Base} {st:St} {a:Act} {w:World} {β:Nat->Option Place} (hs:SimB Γ st a w β) {r:ResultVar} {x:AV} (h:GM E st r=some x) :
 ∃ v,(resS a.tmps r).run V.P w=.ok v w/\RelV (Ac w) (Γ.after w β st.heap) β x v:=by
 cases r with
 |tmp t=>
  simp only[GM] at h
  obtain ⟨v,h1,h2⟩:=hs.tmps t x h
  refine ⟨v,?_,h2⟩
  simp[resS,Array.getD_eq_getD_getElem?,h1]
 |cell c t=>
  simp only[GM] at h
  split at h
  ·rename_i i l k ht hat
   split at h
   ·rename_i hth
    obtain ⟨B,o',us,hv,hl,hrd,hrel,hpl⟩:=KX hs (Ai hs (.tmp c)) hat hth
    obtain ⟨v,hv',_,hsh⟩:=G0 (hE.ti _ _ ht) h hrel hpl
    refine ⟨v,?_,hv'⟩
    have hv0:a.tmps.getD c undef=.pointer (some ⟨B,o'+k,none⟩):=hv
    unfold resS
    simp only[hv0]
    have hsz:=(hE.ti _ _ ht)
    unfold loadVar
    simp only[asAddr,pure_bind,Sem.run_bind,hsz.run_agg,Result.andThen_ok]
    split at hsh
    ·rename_i ha
     obtain ⟨hle,rfl⟩:=hsh
     rw[if_pos ha]
     simp only[Sem.run_bind,hsz.run_size,Result.andThen_ok]
     have hlen:((us.drop k).take i.size).length=i.size:=by simp;omega
     rw[show i.size=((us.drop k).take i.size).length from hlen.symm,run_loadCells_list w ⟨B,o'+k,none⟩ ((us.drop k).take i.size) fun j u hu=>?_]
     ·simp
     ·rw[add_plain]
      rw[List.getElem?_take] at hu
      split at hu
      ·rw[List.getElem?_drop] at hu
       have hkj:k+j < us.length:=(List.getElem?_eq_some_iff.1 hu).1
       have:=hrd (k+j) (by omega)
       rw[hu] at this
       rw[Nat.add_assoc]
       exact DJ this (hpl _ (qY14 hu))
      ·cases hu
    ·rename_i ha
     rw[if_neg ha]
     have hk:k < us.length:=(List.getElem?_eq_some_iff.1 hsh).1
     have:=hrd k (by omega)
     rw[hsh] at this
     have:=DJ this (hpl _ (qY14 hsh))
     simp[this]
   ·cases h
  ·cases h
theorem JE (hE:TabOK V E) {Γ:Base} {st:St} {a:Act} {w:World} {β:Nat->Option Place} (hs:SimB Γ st a w β):∀ (rs:List ResultVar) (azs:List AV),Gs E st rs=some azs->
 ∃ vs:List Value,(rs.mapM (m:=Sem) (resS a.tmps)).run V.P w=.ok vs w/\RelL (Ac w) (Γ.after w β st.heap) β azs vs
 |[],azs,h=>by cases h;exact ⟨[],rfl,by simp[RelL]⟩
 |r::rs,azs,h=>by
  simp only[Gs] at h
  split at h
  ·rename_i x hx
   split at h
   ·rename_i l hl
    cases h
    obtain ⟨v,h1,h2⟩:=N8 hE hs hx
    obtain ⟨vs,h3,h4⟩:=JE hE hs rs l hl
    refine ⟨v::vs,?_,by simp only[RelL];exact ⟨v,vs,rfl,h2,h4⟩⟩
    rw[List.mapM_cons]
    simp only[Sem.run_bind,h1,Result.andThen_ok,h3,Sem.run_pure]
   ·cases h
  ·cases h
theorem OI {fn:Func} {a:Act} {w:World} {vs:List Value} (h:(fn.results.toList.mapM (m:=Sem) (resS a.tmps)).run V.P w=.ok vs w):(results fn a.tmps).run V.P w=.ok (CC vs) w:=by
 rw[Qc,Sem.run_bind,Array.mapM_eq_mapM_toList,Sem.run_map,h]
 cases vs with
 |nil=>rfl
 |cons v vs=>cases vs<;>rfl
theorem N5 {w:World} {r:Nat} {o:Obj} (hr:w.heap[r]?=some o) (h:∀ cs ty fr,o≠.cells cs ty fr) (h':∀ es c,o≠.map es c) (i:Nat):Ac w r i=none:=by
 unfold Ac World.cell?
 rw[hr]
 cases o<;>simp at h h' ⊢
theorem GH {Γ:Base} {st:St} {a:Act} {w w':World} {β:Nat->Option Place} (h:SimB Γ st a w β) {r:Nat} (hr:∀ o,w.heap[r]?=some o->(∀ cs ty fr,o≠.cells cs ty fr)/\∀ es c,o≠.map es c) (hΓ:Γ.w.heap.size<=r)
 (h1:w'.os=w.os) (h2:w'.tape=w.tape) (h3:w'.output=w.output) (h4:w.heap.size<=w'.heap.size) (h5:∀ B,B < w.heap.size->B≠r->w'.heap[B]?=w.heap[B]?) {ds:List Deferred} (hds:Fj Γ w' ds):SimB Γ st { a with defers:=ds } w' β:=by
 have hl:∀ B,Av st.heap β B->B < w.heap.size/\B≠r:=by
  rintro B ⟨b,r0,p,hb,hp,hk,rfl⟩
  obtain ⟨q,hq,hg,hrow⟩:=h.ctx.rows b r0 hb
  rw[hp] at hq;cases hq
  refine ⟨(hg hk).2,fun e=>?_⟩
  obtain ⟨o,ho⟩:∃ o,w.heap[p.B]?=some o:=⟨_,Array.getElem?_eq_getElem (hg hk).2⟩
  obtain ⟨n1,n2⟩:=hr o (e ▸ ho)
  cases r0 with
  |typed e l=>obtain ⟨_,_,_,h⟩:=hrow;obtain ⟨cs,ty,h,_⟩:=h hk;rw[h] at ho;cases ho;exact n1 _ _ _ rfl
  |cells l=>obtain ⟨_,_,_,cs,ty,h,_⟩:=hrow;rw[h] at ho;cases ho;exact n1 _ _ _ rfl
  |mapr t l=>obtain ⟨_,es,c,h,_⟩:=hrow;rw[h] at ho;cases ho;exact n2 _ _ rfl
 have hm:Mono (Ac w) (Γ.after w β st.heap) (Ac w') (Γ.after w' β st.heap):=by
  refine ⟨fun B hB=>⟨Nat.lt_of_lt_of_le hB.1 h4,hB.2.1,hB.2.2⟩,fun B hB o v hv=>?_⟩
  by_cases e:B=r
  ·subst e
   obtain ⟨x,hx⟩:∃ x,w.heap[B]?=some x:=⟨_,Array.getElem?_eq_getElem hB.1⟩
   rw[N5 hx (hr x hx).1 (hr x hx).2] at hv;cases hv
  ·rw[Kv (h5 B hB.1 e)];exact hv
 have hrows:∀ (b:Nat) r0 p,st.heap[b]?=some (some r0)->β b=some p->p.backed=true->w'.heap[p.B]?=w.heap[p.B]?:=fun b r0 p hb hp hk=>by
  obtain ⟨e1,e2⟩:=hl p.B ⟨b,r0,p,hb,hp,hk,rfl⟩
  exact h5 _ e1 e2
 refine ⟨⟨fun b r0 hb=>?_,h.ctx.apart,fun B hB=>⟨hB.1,hB.2.2⟩,h.ctx.dom⟩,⟨h1.trans h.frm.os,h2.trans h.frm.tape,h3.trans h.frm.output,Nat.le_trans h.frm.size h4,fun B hB hn=>?_⟩,h.len,fun t x hx=>?_,hds,fun j b hb=>?_,h.gbw,h.low,h.own⟩
 ·obtain ⟨p,hp,hg,hr⟩:=h.ctx.rows b r0 hb
  exact ⟨p,hp,fun hk=>⟨(hg hk).1,Nat.lt_of_lt_of_le (hg hk).2 h4⟩,Ck hm (fun _ _ h=>h) (hrows b r0 p hb hp) r0 hr⟩
 ·rw[h5 B (Nat.lt_of_lt_of_le hB h.frm.size) (by omega)];exact h.frm.block B hB hn
 ·obtain ⟨v,hv,hr⟩:=h.tmps t x hx
  exact ⟨v,hv,BA hm (fun _ _ h=>h) x v hr⟩
 ·obtain ⟨c1,c2,c3⟩:=h.orig j b hb
  exact ⟨c1,c2,fun r0 p hr0 hp hk=>(c3 r0 p hr0 hp hk).congr (hrows b r0 p hr0 hp hk)⟩
theorem HJ {gb:Nat} {w:World} {I:Nat->Prop} {β:Nat->Option Place} {H:Ae} (hctx:Ctx gb w I β H) (hgb:gb<=w.heap.size) {tmps:List AV} {ts:Array Value} (hl:tmps.length=ts.size) (ht:∀ (t:Nat) x,tmps[t]?=some x->∃ v,ts[t]?=some v/\RelV (Ac w) I β x v) {K:Nat} (hK:K<=H.length) :
 SimB ⟨gb,w,I,β,H⟩ ⟨tmps,H,List.range K⟩ { tmps:=ts,defers:=[] } w β:=by
 have hm:Mono (Ac w) I (Ac w) (Base.after ⟨gb,w,I,β,H⟩ w β H):=⟨fun B hB=>⟨(hctx.imm B hB).1,.inl hB,(hctx.imm B hB).2⟩,fun _ _ _ _ h=>h⟩
 refine ⟨⟨fun i r hr=>?_,hctx.apart,fun B hB=>⟨hB.1,hB.2.2⟩,hctx.dom⟩,⟨rfl,rfl,rfl,Nat.le_refl _,fun _ _ _=>rfl⟩,hl,fun t z hz=>?_,⟨List.nodup_nil,by simp⟩,fun j b hj=>?_,hgb,fun B hB=>?_,fun b r p hb hp hk=>?_⟩
 ·obtain ⟨p,hp,h1,h2⟩:=hctx.rows i r hr
  exact ⟨p,hp,h1,Ck hm (fun _ _ h=>h) (fun _=>rfl) r h2⟩
 ·obtain ⟨v,hv,hr⟩:=ht t z hz
  exact ⟨v,hv,BA hm (fun _ _ h=>h) _ _ hr⟩
 ·obtain ⟨hlt,e⟩:=List.getElem?_eq_some_iff.1 hj
  simp only[List.length_range] at hlt
  rw[List.getElem_range] at e
  subst e
  refine ⟨rfl,by show j < H.length;omega,fun r p hr hp hk=>?_⟩
  obtain ⟨p',hp',_,hrr⟩:=hctx.rows j r hr
  rw[hp] at hp';cases hp'
  cases r with
  |typed e l=>
   obtain ⟨_,_,_,h4⟩:=hrr
   obtain ⟨cs,ty,g1,_⟩:=h4 hk
   exact .inr ⟨cs,cs,ty,g1,g1,rfl,fun _ _=>rfl⟩
  |cells l=>
   obtain ⟨_,_,_,cs,ty,g1,_⟩:=hrr
   exact .inr ⟨cs,cs,ty,g1,g1,rfl,fun _ _=>rfl⟩
  |mapr t l=>
   obtain ⟨_,es,c,g1,_⟩:=hrr
   exact .inl ⟨es,c,es,c,g1,g1⟩
 ·obtain ⟨b,r,p,hb,hp,hk,rfl⟩:=hB
  obtain ⟨p',hp',h1,_⟩:=hctx.rows b r hb
  have hp2:β b=some p:=hp
  rw[hp2] at hp';cases hp'
  exact (h1 hk).1
 ·exact .inr ⟨b,r,p,hb,hp,hk,rfl⟩
theorem Hk (hE:TabOK V E) {w:World} {I:Nat->Prop} {β:Nat->Option Place} {ps rk:List PK} {x:Ah ps} {y:Ah rk} {o:A_ ps} {vs:Array Value} (hvs:RelL (Ac w) I β (AA ps x 0 (cntK ps)) vs.toList) {rs:List ResultVar} {st':St} {a':Act} {w':World} {β':Nat->Option Place}
 (hs':SimB ⟨V.gb,w,I,β,Ax ps x⟩ st' a' w' β') (hfin:DF E rs ps rk st'=some (y,o)) :
 ∃ (us:List Value) (I':Nat->Prop) (β1:Nat->Option Place),(rs.mapM (m:=Sem) (resS a'.tmps)).run V.P w'=.ok us w'/\FrmC w w' (Av (Ax ps x) β)/\OutOK w w' V.gb I β (Ax ps x) (Bz ps rk o y) (cntK ps) I' β1/\RelL (Ac w') I' β1 (CZ ps rk y) us:=by
 let Γ:Base:=⟨V.gb,w,I,β,Ax ps x⟩
 have hs':SimB Γ st' a' w' β':=hs'
 unfold DF at hfin
 split at hfin
 case h_2=>cases hfin
 rename_i azs has
 obtain ⟨rvs,hrun,hrel⟩:=JE hE hs' _ _ has
 split at hfin
 case isFalse=>cases hfin
 rename_i hog
 simp only[Eo] at hfin
 obtain ⟨ws,hws⟩:=Nn ps x 0 (cntK ps) vs.toList hvs
 have hou:RelL (Ac w') (Γ.after w' β' st'.heap) β' (outA ps st'.orig) ws:=hws _ _ β' st'.orig hog fun i b hb=>by
  rw[(hs'.orig i b hb).1,Nat.zero_add]
 obtain ⟨βa,La,ha⟩:=C1 (opsOf ps) _ _ hs' hou
 obtain ⟨H1,eH1⟩:∃ H1,H1=(lift (opsOf ps) (outA ps st'.orig) st'.heap).2:=⟨_,rfl⟩
 rw[Eo] at ha
 rw[<-eH1] at La ha hfin
 obtain ⟨βb,Lb,hb'⟩:=C1 rk _ _ La.sim (relL_mono La.mono La.sub _ _ hrel)
 have ha:=relL_mono Lb.mono Lb.sub _ _ ha
 obtain ⟨H2,eH2⟩:∃ H2,H2=(lift rk azs H1).2:=⟨_,rfl⟩
 simp only[<-eH2] at Lb ha hb' hfin
 have hs2:=Lb.sim
 split at hfin
 case h_2=>cases hfin
 rename_i o' s1 t1 m1 y' s2 t2 m2 hd1 hd2
 split at hfin
 case isFalse=>cases hfin
 rename_i hc
 cases hfin
 simp only[qY0] at hc
 obtain ⟨⟨hnd,hdj⟩,hwh⟩:=hc
 obtain ⟨zs1,zt1,D1⟩:=B7 hs2.ctx [] (opsOf ps) _ _ o s1 t1 m1 ha hd1
 obtain ⟨zs2,zt2,D2⟩:=B7 hs2.ctx _ rk _ _ y s2 t2 m2 hb' hd2
 have es1:=ops_refs ps _ _ _ _ _ hd1
 obtain ⟨Z,hZ⟩:∃ Z,Z=(zs1++zt1)++(zs2++zt2):=⟨_,rfl⟩
 have hids:Al (Z.map (·.1))=Al ((s1++t1)++(s2++t2)):=by rw[hZ];simp only[List.map_append];rw[<-D1.s_eq,<-D1.t_eq,<-D2.s_eq,<-D2.t_eq]
 have hrZ:∀ z∈Z,Bq βb H2 z:=fun z hz=>by
  rw[hZ] at hz
  exact (List.mem_append.1 hz).elim (fun h=>(List.mem_append.1 h).elim (D1.refs z) (D1.reft z)) fun h=>(List.mem_append.1 h).elim (D2.refs z) (D2.reft z)
 have hl1:zs1.length=cntK ps:=by rw[D1.lenK,Fh]
 have hl2:(zs1++zt1).length=Ci ps:=by rw[qZ6,hl1,D1.lenN];rfl
 have hkeep:∀ i,i < cntK ps->∃ z b p r0,zs1[i]?=some z/\st'.orig[i]?=some b/\H2[b]?=some (some r0)/\βb b=some p/\z.2.1=p/\z.1.row=some b/\(outA ps st'.orig)[i]?=some z.1:=by
  intro i hi
  have hz:zs1[i]?=some zs1[i]:=qZ5 (by omega)
  obtain ⟨b,p,r0,c1,c2,c3,c4,c5,c6,_⟩:=D1.refs _ (qY14 hz)
  have hz1:s1[i]?=some zs1[i].1:=by rw[D1.s_eq,List.getElem?_map,hz];rfl
  have hw:zs1[i].1.whole=true:=List.all_eq_true.1 hwh _ (qY14 hz1)
  rw[es1] at hz1
  obtain ⟨b',d1,d2⟩:=D5 ps _ hog i _ hz1
  rw[c1] at d2;cases d2
  exact ⟨_,b,p,r0,hz,d1,c2,c3,c6 hw,c1,hz1⟩
 let I':=AX (Γ.after w' βb H2) βb (m1++m2)
 have hmI:∀ (ma:List Nat),(∀ b∈ma,b∈m1++m2)->Mono (Ac w') (AX (Γ.after w' βb H2) βb ma) (Ac w') I':=fun ma h=>withRows_mono _ _ h _
 obtain ⟨v1,v2,v3⟩:=D1.vals I' (AN Z) 0 (cntK ps) (hmI m1 (fun b h=>List.mem_append.2 (.inl h))) (by rw[hZ,qZ1];exact D_ [] zs1 _) (by rw[hZ,qZ1,<-hl1];exact D_ zs1 zt1 _) (fun i b p h=>by simp at h)
 obtain ⟨u1,u2,u3⟩:=D2.vals I' (AN Z) (Ci ps) (Ci ps+cntK rk) (hmI m2 (fun b h=>List.mem_append.2 (.inr h))) (by rw[hZ,<-hl2];exact D_ _ zs2 zt2) (by
  have:=D_ ((zs1++zt1)++zs2) zt2 []
  rw[qY4,qZ6,hl2,D2.lenK] at this
  rw[hZ,<-qZ1];exact this) (fun i b p h hp=>by
  have hi:i < cntK ps:=by
   obtain ⟨b',d1,_⟩:=D5 ps _ hog i _ h
   rw[<-hog];exact (List.getElem?_eq_some_iff.1 d1).1
  obtain ⟨z,b',p',r0,e1,e2,e3,e4,e5,e6,e7⟩:=hkeep i hi
  rw[h] at e7
  rw[<-Option.some.inj e7] at e6
  cases e6
  rw[hp] at e4;cases e4
  rw[hZ,qZ1]
  simp only[AN]
  rw[qY8 (by omega),e1,Option.map_some,e5])
 have hrows:=DN (by rw[qZ6,C9,Fw,Fh,hl2];rfl) (DN (by rw[C9,Fh,hl1]) v2 v3) (DN (by rw[C9,D2.lenK]) u2 u3)
 rw[<-hZ] at hrows
 have hctx2:=Ke hs2 (Z:=Z) (m:=m1++m2) (rows:=Bz ps rk o y) hrZ (by rw[hids];exact hnd) (by rw[hids];exact IF hdj) (fun b hb=>(List.mem_append.1 hb).elim (D1.alive b) (D2.alive b))
  (by rw[NH,hZ,qZ6,hl2,qZ6,D2.lenK,D2.lenN]) hrows
 refine ⟨rvs,I',AN Z,hrun,⟨hs'.frm.os,hs'.frm.tape,hs'.frm.output,hs'.frm.size,hs'.frm.block⟩,⟨hctx2,fun B hB=>?_,fun i r q hi hq hk=>?_,fun i hi=>?_⟩,u1⟩
 ·rcases hB with hB | ⟨b,hb,p,hp,hk,rfl⟩
  ·exact hB.2.1
  ·obtain ⟨r,hr⟩:=(List.mem_append.1 hb).elim (D1.alive b) (D2.alive b)
   exact (hs2.own b r p hr hp hk).elim (fun h=>.inr (.inr h)) fun h=>.inr (.inl h)
 ·have hi':=(List.getElem?_eq_some_iff.1 hi).1
  obtain ⟨z,hz⟩:∃ z,Z[i]?=some z:=by
   cases hh:Z[i]? with
   |none=>simp[AN,hh] at hq
   |some z=>exact ⟨z,rfl⟩
  obtain ⟨b,p,r0,c1,c2,c3,c4,c5,_⟩:=hrZ z (qY14 hz)
  simp only[AN,hz,Option.map_some,Option.some.injEq] at hq
  subst hq
  rw[c4]
  exact (hs2.own b r0 p c2 c3 (c5 ▸ hk)).symm
 ·obtain ⟨z,b,p,r0,e1,e2,e3,e4,e5,e6,e7⟩:=hkeep i hi
  obtain ⟨c1,c2,c3⟩:=hs2.orig i b e2
  have hpz:AN Z i=some p:=by
   rw[hZ,qZ1]
   simp only[AN]
   rw[qY8 (by omega),e1,Option.map_some,e5]
  rw[e4] at c1
  exact ⟨hpz.trans c1,fun p' hp' hk=>by
   have:Γ.β i=some p':=hp'
   rw[<-c1] at this;cases this
   exact c3 r0 p e3 e4 hk⟩
theorem Tj (hE:TabOK V E) {k:FuncId} {fn:Func} {c:Code} (hf:V.P.funcs[k]?=some fn) (hb:fn.body=some c) {ps rk:List PK} (hn:ps.length<=fn.ntmps)
 (hl:∀ Γ:Base,Γ.gb=V.gb->V.G Γ.w->∀ a∈AY c,∀ L,E.lp (Bh a)=some L->B4 V Γ none a fun ρ=>L.f ρ)
 {x:Ah ps} {y:Ah rk} {o:A_ ps} (h:Gl E fn.ntmps fn.results.toList c ps rk x=some (y,o)):Lq V k ps rk x y o:=by
 intro w I β vs hG hgb hctx hvs
 have hvl:=By _ _ hvs
 rw[FD] at hvl
 have hvl':vs.size=ps.length:=by rw[<-Array.length_toList];exact hvl
 have hsim:SimB ⟨V.gb,w,I,β,Ax ps x⟩ (Lo fn.ntmps ps x) { tmps:=vs++Array.replicate (fn.ntmps - vs.size) undef,defers:=[] } w β:=
  HJ hctx hgb (by simp[FD,hvl']) (fun t z hz=>by
   rw[List.getElem?_append] at hz
   split at hz
   ·rename_i hlt
    obtain ⟨v,hv,hr⟩:=BS _ _ hvs t z hz
    refine ⟨v,?_,hr⟩
    rw[FD] at hlt
    rw[Array.getElem?_append_left (by omega),<-Array.getElem?_toList];exact hv
   ·rename_i hge
    rw[FD] at hge hz
    simp only[List.getElem?_replicate] at hz
    split at hz
    ·cases hz
     refine ⟨undef,?_,by simp[RelV]⟩
     rw[Array.getElem?_append_right (by omega),Array.getElem?_replicate,if_pos (by omega)]
    ·cases hz) (by rw[EC];omega)
 refine (callsIn_wide (n:=0)).1 (callsIn_of_wp_marks hf hb trivial (CU (Γ:=⟨V.gb,w,I,β,Ax ps x⟩) (ro:=none) hE rfl hG c (hl _ rfl hG) _ _ _ _ h _ w ⟨β,hsim⟩ _ fun ex st' a' w' hs' h'=>?_))
 have hfin:DF E fn.results.toList ps rk st'=some (y,o)/\((ex.toExit=.normal)\/ex.toExit=.ret):=by
  cases ex with
  |normal=>exact ⟨h',.inl rfl⟩
  |exit id=>cases h'
  |ret=>exact ⟨h',.inr rfl⟩
 obtain ⟨hfin,hex⟩:=hfin
 obtain ⟨β',hs'⟩:=hs'
 have main:∀ (ds:List Deferred) (w':World),SimB ⟨V.gb,w,I,β,Ax ps x⟩ st' { tmps:=a'.tmps,defers:=ds } w' β'->
  LeavesInM Fence.wide 0 V.P fn a'.tmps (fun e w'=>∃ (us:List Value) (I':Nat->Prop) (β':Nat->Option Place),e=.returned (CC us)/\FrmC w w' (Av (Ax ps x) β)/\OutOK w w' V.gb I β (Ax ps x) (Bz ps rk o y) (cntK ps) I' β'/\RelL (Ac w') I' β' (CZ ps rk y) us) ds .returning w':=by
  intro ds
  induction ds with
  |nil=>
   intro w' hs'
   obtain ⟨us,I',β1,g1,g2,g3,g4⟩:=Hk hE hvs hs' hfin
   exact ⟨_,OI g1,us,I',β1,rfl,g2,g3,g4⟩
  |cons d ds ih=>
   intro w' hs'
   refine ⟨by simp,.inl ?_⟩
   obtain ⟨hnd,hD⟩:=hs'.defers
   simp only at hnd hD
   obtain ⟨D,rfl,hge,hobj⟩:=hD d (by simp)
   refine ⟨D,w'.putObj D (.deferred none),rfl,run_takeDeferred hobj,ih _ (GH (w':=w'.putObj D (.deferred none)) hs' (r:=D) (fun o ho=>by rw[hobj] at ho;cases ho;exact ⟨by simp,by simp⟩) hge rfl rfl rfl (by simp) (fun B _ hne=>World.putObj_heap_other hne) ⟨(List.nodup_cons.1 hnd).2,fun d' hd'=>?_⟩)⟩
   obtain ⟨D',e1,e2,e3⟩:=hD d' (by simp[hd'])
   refine ⟨D',e1,e2,?_⟩
   have hne:D'≠D:=fun e=>(List.nodup_cons.1 hnd).1 (by subst e;rw[<-e1];exact hd')
   rw[World.putObj_heap_other hne];exact e3
 rcases hex with hex | hex<;>rw[hex]<;>exact main _ _ hs'
end
end Go.AM
end
section
namespace Go.AM
def sl:Code->Code
 |.seq a _=>a
 |c=>c
def sr:Code->Code
 |.seq _ b=>b
 |c=>c
def bb:Code->Code
 |.block _ a=>a
 |c=>c
def lb:Code->Code
 |.loop a=>a
 |c=>c
def rb:Code->Code
 |.rangeFunc _ _ _ b=>b
 |c=>c
def fb (f:Func):Code:=f.body.getD .skip
theorem AH {P:Program} {t:TypeId} {i:TI} {d:TypeDesc} {j:TypeInfo} (hu:P.underlying t=some d) (hj:P.types[t]?=some j) (h1:BY d=i.d) (h2:j.size=i.size) (h3:j.bytes=i.bytes) (h4:∀ g,i.gt=some g->j.zero=some (Bv g)/\g.cells=i.size/\g.isAgg=i.d.agg):TOk P t i:=by
 have hi:P.info? t=some j:=by
  show P.toTables.info? t=some j
  unfold Tables.info?
  rw[if_pos (Array.getElem?_eq_some_iff.1 hj).1];exact hj
 exact ⟨by rw[hu,<-h1];rfl,by rw[hi,<-h2,<-h3];rfl,fun g hg=>⟨by rw[hi,<-(h4 g hg).1];rfl,(h4 g hg).2⟩⟩
section
variable {V:Env} {Γ:Base} {E:Tab} {ro:Option Nat}
def Dw (P:Program) (l:List (Nat×TI)):Prop:=∀ t i,Ct l t=some i->TOk P t i
theorem Q8 {P:Program}:Dw P []:=fun t i h=>by cases h
theorem AI {P:Program} {t:Nat} {i:TI} {l:List (Nat×TI)} (h:TOk P t i) (k:Dw P l):Dw P ((t,i)::l):=fun t' i' h'=>by
 simp only[Ct] at h'
 split at h'
 ·rename_i e;subst e;cases h';exact h
 ·exact k t' i' h'
def GB (V:Env) (l:List (Nat×Option Nat×Callee)):Prop:=∀ k azs c,FP l k azs=some c->Good V k c
theorem S2:GB V []:=fun t i c h=>by cases h
theorem Ty {k:Nat} {s:Option Nat} {c:Callee} {l:List (Nat×Option Nat×Callee)} (h:Good V k c) (r:GB V l):GB V ((k,s,c)::l):=fun k' azs c' h'=>by
 simp only[FP] at h'
 split at h'
 ·rename_i e;obtain ⟨rfl,_⟩:=e;cases h';exact h
 ·exact r k' azs c' h'
def N6 (V:Env) (Γ:Base) (ro:Option Nat) (E:Tab) (l:List Code):Prop:=∀ a∈l,∀ L,E.lp (Bh a)=some L->B4 V Γ ro a fun ρ=>L.f ρ
def E4 (P:Program) (l:List (Nat×Nat)):Prop:=∀ k kb,Ct l k=some kb->Eh P k kb
theorem AB {P:Program}:E4 P []:=fun t i h=>by cases h
theorem Jx {P:Program} {k kb:Nat} {l:List (Nat×Nat)} (h:Eh P k kb) (r:E4 P l):E4 P ((k,kb)::l):=fun k' c' h'=>by
 simp only[Ct] at h'
 split at h'
 ·rename_i e;subst e;cases h';exact h
 ·exact r k' c' h'
theorem Fc {k : FuncId} {C : Callee} (hen : ∃ fn, V.P.funcs[k]? = some fn ∧ (fn.name == "runtime.NumGoroutine") = false ∧ fn.body.isNone = false) (h : ∀ x, C.g x = none) : Good V k C := ⟨hen, fun x y o hx => by rw [h] at hx; cases hx⟩
theorem TJ {k : FuncId} {fn : Func} {c : Code} {C : Callee} (hE : TabOK V E) (hf : V.P.funcs[k]? = some fn) (hb : fn.body = some c) (hname : (fn.name == "runtime.NumGoroutine") = false) (hn : C.ps.length ≤ fn.ntmps)
 (hl:∀ Γ:Base,Γ.gb=V.gb->V.G Γ.w->N6 V Γ none E (AY c)) (hr:∀ x,Gl E fn.ntmps fn.results.toList c C.ps C.rk x=C.g x):Good V k C:=
 ⟨⟨fn,hf,hname,by rw[hb];rfl⟩,fun x y o h=>Tj hE hf hb hn hl (by rw[hr];exact h)⟩
end
end Go.AM
end
section
namespace Go.AM
open Go.RowKit (Below)
def Df (kd:IntKind) (p:Int×Nat):Array Value:=#[.int .i64 p.2,.int kd p.1]
def FA (Bs:Nat) (b:Option Nat) (W W':World):Prop:=W.heap.size<=W'.heap.size/\W'.heap[Bs]?=W.heap[Bs]?/\∀ k,b=some k->W'.heap[k]?=W.heap[k]?
def GC (P : Program) (kb : Nat) (kd : IntKind) : Prop := (∃ fn, P.funcs[kb]? = some fn ∧ (fn.name == "runtime.NumGoroutine") = false ∧ fn.body.isNone = false) ∧
 ∀ (Bs ob:Nat) (ad:Option Addr) (cap:Nat) (xs:List Int) (W:World) (l:Nat) (J:Nat->World->Prop),xs.length<=2 ^ 40->W.cell? ⟨Bs,ob,none⟩=some (.slice ad xs.length cap)->
 (xs≠[]->∃ b off,ad=some ⟨b,off,none⟩/\∀ (k:Nat) x,xs[k]?=some x->W.cell? ⟨b,off+k,none⟩=some (.int kd x))->
 (∀ (k:Nat) x W1,xs.zipIdx.reverse[k]?=some x->J k W1->YieldAt Fence.wide 0 P l (Df kd x) W1 fun e W'=>e=.returned (.bool true)/\J (k+1) W'/\FA Bs (ad.map (·.block)) W1 W')->J 0 W->
 CallsIn Fence.wide 0 P kb #[.func (.yield l) #[] #[],.pointer (some ⟨Bs,ob,none⟩)] W fun e W'=>(∃ v,e=.returned v)/\J xs.length W'
def Cg {α β:Type} (f:α->β->Option β):List α->β->Option β
 |[],y=>some y
 |x::l,y=>(f x y).bind (Cg f l)
theorem KY {α β:Type} {f:α->β->Option β}:∀ (k:Nat) (l:List α) (y z:β) (x:α),Cg f l y=some z->l[k]?=some x->∃ u v,Cg f (l.take k) y=some u/\f x u=some v/\Cg f (l.take (k+1)) y=some v
 |0,a::l,y,z,x,h,hx=>by
  simp at hx;subst hx
  obtain ⟨v,hv,_⟩:=AF h
  exact ⟨y,v,rfl,hv,by simp[Cg,hv]⟩
 |k+1,a::l,y,z,x,h,hx=>by
  obtain ⟨v,hv,h'⟩:=AF h
  obtain ⟨u,w,h1,h2,h3⟩:=KY k l v z x h' (by simpa using hx)
  exact ⟨u,w,by simp[Cg,hv,h1],h2,by simp only[List.take_succ_cons,Cg,hv,Option.bind_some];exact h3⟩
def JN (A:Ann) (t1 t2 s d:Nat) (kd:IntKind) (v:Int) (i:Nat) (y:Ah A.ps):St:=
 let l:=((encSt A y).tmps.set t1 (.int .i64 i)).set t2 (.int kd v)
 ⟨l.set d (l.getD s .any),Ax A.ps y,List.range (cntK A.ps)⟩
def Hj (E:Tab) (A:Ann) (t1 t2 s d:Nat) (kd:IntKind) (body:Code) (v:Int) (i:Nat) (y:Ah A.ps):Option (A_ A.ps):=
 run E body (JN A t1 t2 s d kd v i y) fun ex st=>match ex with
  |.normal=>(DF E [] A.ps [] st).bind fun r=>some r.2
  |_=>none
def IC (A:Ann) (y:Ah A.ps) (o:A_ A.ps):Option (Ah A.ps):=
 Cf (Ax A.ps y) ⟨A.ps,[],fun _=>some ((),o)⟩ (AA A.ps y 0 (cntK A.ps)) fun _ H=>Cc A { encSt A y with heap:=H }
def Fn (A:Ann) (kb:Nat) (kd:IntKind) (g:Operand) (step:Int->Nat->Ah A.ps->Option (Ah A.ps)) (outs:Ah A.ps->A_ A.ps):LoopO:=
 ⟨fun _ st K=>match st.ev g with
  |.fn k [.ptr nb 0 0]=>if k=kb then match st.heap[nb]? with
   |some (some (.cells [x]))=>match decC st.heap (.sl (.int kd)) [x] with
    |some (xs,[],mx)=>match Aq (lift A.ps (A.slots.map fun t=>st.tmps.getD t .any) st.heap).2 [] A.ps (lift A.ps (A.slots.map fun t=>st.tmps.getD t .any) st.heap).1 with
     |some (_,s,t,_)=>if Bm (Al (s++t)) (nb::mx)=true/\st.tmps.length=A.n then
      Aa (decide ((xs:List Int).length<=Az)) (Cf st.heap ⟨A.ps,[],fun y=>(Cg (fun p y=>step p.1 p.2 y) (xs:List Int).zipIdx.reverse y).bind fun y'=>some ((),outs y')⟩ (A.slots.map fun t=>st.tmps.getD t .any) fun _ H=>K .normal { st with heap:=H })
      else none
     |none=>none
    |_=>none
   |_=>none
   else none
  |_=>none⟩
theorem Ly {ρ:Type} {b:Bool} {x:Option ρ} {z:ρ} (h:Aa b x=some z):b=true/\x=some z:=by cases b<;>simp[Aa] at h ⊢;exact h
section
variable {V:Env} {Γ:Base} {ro:Option Nat}
theorem TH {P:Program} {ro:Option Nat} {id s d:Nat} {o:Oper} (ho:o.op=.assign (.tmp s)) (hd:o.dst=some d) (hg:o.guard=none) {K:Act->World->Prop} {R:Exit->Act->World->Prop} {a:Act} {w:World} (h:K (a.put (some d) (a.eval (.tmp s))) w) :
 (Code.region id #[o] false).wpIn (FR ro) 0 P (Exit.then K R) a w:=by
 refine wpIn_region ?_
 have hw:Region.wanted o (yielded #[o] a.tmps)=true:=by unfold Region.wanted;rw[hg]
 have:List.range (#[o]:Array Oper).size=[0]:=rfl
 rw[this]
 simp only[wpOpsIn,List.getElem?_toArray,List.getElem?_cons_zero,hw,if_true]
 refine ⟨fun _ _=>trivial,?_⟩
 rw[Oper.semAt_eq _ _ _ (by rw[ho];simp)]
 have e:(execOp a.eval o).run P w=.ok (.value (a.eval (.tmp s))) w:=by simp[execOp,ho]
 rw[e,Oper.uponIn_value,hd]
 exact h
theorem G4 {R:AV->Value->Prop} {l:List AV} {ts:Array Value} (h:∀ (t:Nat) x,l[t]?=some x->∃ v,ts[t]?=some v/\R x v) (hl:l.length=ts.size) {x:AV} {v:Value} (hr:R x v) (d:Nat):∀ (t:Nat) y,(l.set d x)[t]?=some y->∃ v',(ts.setIfInBounds d v)[t]?=some v'/\R y v':=by
 intro t y hy
 rw[List.getElem?_set] at hy
 rw[Array.getElem?_setIfInBounds]
 split at hy
 ·rename_i e;subst e
  split at hy
  ·rename_i hlt;cases hy
   rw[if_pos rfl,if_pos (by omega)]
   exact ⟨v,rfl,hr⟩
  ·cases hy
 ·rename_i e
  rw[if_neg e]
  exact h t y hy
theorem QQ {rd:Nat->Nat->Option Value} {I:Nat->Prop} {β:Nat->Option Place} {l:List AV} {ts:Array Value} (h:∀ (t:Nat) x,l[t]?=some x->∃ v,ts[t]?=some v/\RelV rd I β x v) (s:Nat):RelV rd I β (l.getD s .any) (ts.getD s undef):=by
 rw[qZ4]
 cases hs:l[s]? with
 |none=>simp[RelV]
 |some x=>
  obtain ⟨v,hv,hr⟩:=h s x hs
  rw[Array.getD_eq_getD_getElem?,hv]
  exact hr
theorem ON {E:Tab} (hE:TabOK V E) (hg:Γ.gb=V.gb) (h0:V.G Γ.w) {A:Ann} {kb:Nat} {kd:IntKind} {g:Operand} {t1 t2 s d rid:Nat} {o:Oper} {body:Code} {round:Int->Nat->Ah A.ps->Option (A_ A.ps)} {merge:Ah A.ps->A_ A.ps->Ah A.ps} {outs:Ah A.ps->A_ A.ps}
 (hback:GC V.P kb kd) (ho:o.op=.assign (.tmp s)) (hd:o.dst=some d) (hgd:o.guard=none)
 (hl:∀ (l:Nat) (Γ':Base),Γ'.gb=V.gb->V.G Γ'.w->∀ a∈AY body,∀ L,E.lp (Bh a)=some L->B4 V Γ' (some l) a fun ρ=>L.f ρ)
 (hround:∀ v i y,Hj E A t1 t2 s d kd body v i y=round v i y) (hmerge:∀ y o,IC A y o=some (merge y o))
 (hdec:∀ y,(Aq (lift A.ps (AA A.ps y 0 (cntK A.ps)) (Ax A.ps y)).2 [] A.ps (lift A.ps (AA A.ps y 0 (cntK A.ps)) (Ax A.ps y)).1).bind (fun r=>some r.1)=some y)
 (hslot:∀ y,(A.slots.map fun t=>(encSt A y).tmps.getD t .any)=AA A.ps y 0 (cntK A.ps)) (hog:A.og=List.range (cntK A.ps)) (houts:∀ y,DF E [] A.ps [] (encSt A y)=some ((),outs y)) :
 B4 V Γ none (.rangeFunc g #[t1,t2] (.region rid #[o] false) body) fun ρ=>(Fn A kb kd g (fun v i y=>(round v i y).bind fun o=>some (merge y o)) outs).f ρ:=by
 have eg:∀ args w,(callFunc kb args).run V.P w=.ok (.enter kb args) w:=by
  obtain ⟨fn,h1,h2,h3⟩:=hback.1
  intro args w
  simp only[callFunc,Sem.run_bind,run_program,Result.andThen_ok,h1]
  simp only[h2,h3]
  simp[Sem.run_pure]
 intro ρ st K z h a w hs Q hQ
 obtain ⟨β,hs⟩:=hs
 simp only[Fn] at h
 split at h
 case h_2=>cases h
 rename_i k nb hgv
 split at h
 case isFalse=>cases h
 rename_i hk
 subst hk
 split at h
 case h_2=>cases h
 rename_i xv hnb
 split at h
 case h_2=>cases h
 rename_i xs mx hxs
 split at h
 case h_2=>cases h
 rename_i y0' s0 t0 m0 hd0
 split at h
 case isFalse=>cases h
 rename_i hdj
 obtain ⟨hdj,hlenst⟩:=hdj
 obtain ⟨hlen,h⟩:=Ly h
 simp only[decide_eq_true_eq] at hlen
 have hgrel:=Ai hs g
 rw[hgv] at hgrel
 simp only[RelV,RelL] at hgrel
 obtain ⟨us,hgval,u,us',rfl,⟨pn,hpn,hpk,rfl⟩,rfl⟩:=hgrel
 obtain ⟨pn',hpn',hpnB,e1,e2,e3,cs,ty,g1,g2,ws,g3,g4,g5,g6⟩:=hs.ctx.rows nb _ hnb
 rw[hpn] at hpn';cases hpn'
 have hpnB:=hpnB hpk
 obtain ⟨x0,yu,ou0,hgx0,hdec0,v0,H0,hK0,hcore0⟩:=HD (st:=st) hg h0 h
 obtain ⟨yN,hyN,hyo⟩:=AF hgx0
 cases hyo
 obtain ⟨s1,t1',m1,hd1⟩:=hdec0
 have hd1':Aq (lift A.ps (A.slots.map fun t=>st.tmps.getD t .any) st.heap).2 [] A.ps (lift A.ps (A.slots.map fun t=>st.tmps.getD t .any) st.heap).1=some (x0,s1,t1',m1):=hd1
 rw[hd0] at hd1'
 cases hd1'
 obtain ⟨I,βc,hG0,hgb0,hctx0,hrel0,hIsub0,hnl0,hend0⟩:=hcore0 a w β hs _ (GP hs A.slots)
 have hnl:∀ b r p,st.heap[b]?=some (some r)->β b=some p->p.backed=true->b∈nb::mx->¬ Av (Ax A.ps y0') βc p.B:=fun b r p hb hp hk hm=>hnl0 s0 t0 m0 hd0 b r p hb hp hk fun hmem=>by
  have:=List.all_eq_true.1 hdj b hmem
  simp at this
  rcases List.mem_cons.1 hm with h | h
  ·exact this.1 h
  ·exact this.2 h
 have hBnl:=hnl nb _ pn hnb hpn hpk List.mem_cons_self
 obtain ⟨B,hB⟩:∃ B,B=pn.B:=⟨_,rfl⟩
 obtain ⟨ob,hob⟩:∃ ob,ob=pn.O+0 * pn.s+0:=⟨_,rfl⟩
 rw[<-hB] at hgval hBnl
 rw[<-hob] at hgval
 have hBlt:B < w.heap.size:=by rw[hB];exact hpnB.2
 cases ws with
 |nil=>simp at g3
 |cons u0 ws'=>
 cases ws' with
 |cons _ _=>simp at g3
 |nil=>
 obtain ⟨u1,u2,hu12,hrc,hr2⟩:=C6 hs.ctx (.sl (.int kd)) [xv] [u0] xs [] mx g5 hxs
 simp only[RelL] at hr2;subst hr2
 simp only[qY4] at hu12
 subst hu12
 simp only[RelC] at hrc
 obtain ⟨ad,cap,hu0,hcap,hel⟩:=hrc
 simp only[List.cons.injEq,and_true] at hu0
 subst hu0
 have hc0:w.cell? ⟨B,ob,none⟩=some (.slice ad (xs:List Int).length cap):=by
  have:=g4 0 (by simp)
  simp only[List.getElem?_cons_zero,Nat.add_zero] at this
  simp only[World.cell?,hB,hob,g1,Nat.zero_mul,Nat.add_zero]
  exact this
 have hcells:(xs:List Int)≠[]->∃ b off,ad=some ⟨b,off,none⟩/\b < w.heap.size/\¬ Av (Ax A.ps y0') βc b/\∀ (k:Nat) x,(xs:List Int)[k]?=some x->w.cell? ⟨b,off+k,none⟩=some (.int kd x):=by
  intro hne
  obtain ⟨b,off,e,hb,hh⟩:=hel hne
  refine ⟨b,off,e,?_,?_,fun k x hk=>?_⟩
  ·rcases hb with hb | ⟨b',hb',p,hp,hk,rfl⟩
   ·exact hb.1
   ·obtain ⟨r,hr⟩:=decC_rows _ _ _ _ _ hxs b' hb'
    obtain ⟨p',hp',h1,_⟩:=hs.ctx.rows b' r hr;rw[hp] at hp';cases hp';exact (h1 hk).2
  ·rcases hb with hb | ⟨b',hb',p,hp,hk,rfl⟩
   ·exact fun hlv=>(hctx0.imm b (hIsub0 b hb)).2 hlv
   ·obtain ⟨r,hr⟩:=decC_rows _ _ _ _ _ hxs b' hb'
    exact hnl b' r p hr hp hk (List.mem_cons_of_mem _ hb')
  ·obtain ⟨us,h1,h2,h3⟩:=hh k x hk
   subst h3
   have:=h2 0 (by simp[GT.cells])
   simp only[GT.cells,Nat.mul_one,Nat.add_zero] at this
   exact DJ this rfl
 obtain ⟨y0,hy0⟩:∃ y0,y0=y0':=⟨_,rfl⟩
 rw[<-hy0] at hBnl hcells hctx0 hrel0 hend0 hyN
 obtain ⟨Γc,hΓc⟩:∃ Γc:Base,Γc=⟨V.gb,w,I,βc,Ax A.ps y0⟩:=⟨_,rfl⟩
 obtain ⟨aC,haC⟩:∃ aC:Act,aC={ tmps:=a.tmps,defers:=[] }:=⟨_,rfl⟩
 have hs2:SimB Γc (encSt A y0) aC w βc:=by
  rw[hΓc,haC]
  have:=HJ hctx0 hgb0 (tmps:=(encSt A y0).tmps) (ts:=a.tmps) (by simp only[encSt,DD,List.length_replicate];rw[<-hlenst,<-hs.len]) (fun t q hq=>?_) (K:=cntK A.ps) (by have:=EC A.ps y0;show cntK A.ps<=(Ax A.ps y0).length;omega)
  ·rw[<-hog] at this;exact this
  ·have ht:t < a.tmps.size:=by
    have:=(List.getElem?_eq_some_iff.1 hq).1
    simp only[encSt,DD,List.length_replicate] at this
    rw[<-hs.len,hlenst];exact this
   refine ⟨_,Fa ht,?_⟩
   rcases EU _ _ _ t q hq with hh | ⟨i,h1,h2⟩
   ·rw[List.getElem?_replicate] at hh
    split at hh
    ·cases hh;simp[RelV]
    ·cases hh
   ·obtain ⟨v,hv,hr⟩:=BS _ _ hrel0 i q h2
    simp only[List.getElem?_map,h1,Option.map_some,Option.some.injEq] at hv
    subst hv
    exact hr
 obtain ⟨l,hl0⟩:∃ l,l=w.heap.size+1:=⟨_,rfl⟩
 obtain ⟨mk,hmk⟩:∃ mk:Deferred,mk={ target:=.collected w.heap.size,args:=#[] }:=⟨_,rfl⟩
 refine wpIn_rangeFunc fun fn hfn=>?_
 obtain ⟨rec,hrec⟩:∃ rec:LoopState->Loop,rec=fun st=>{ state:=st,pending:=none,fn,tmps:=a.tmps,params:=#[t1,t2],assign:=.region rid #[o] false,body,defers:=w.heap.size }:=⟨_,rfl⟩
 obtain ⟨W1,hW1⟩:∃ W1,(w.alloc (.deferred (some []))).alloc (.loop (rec .ready))=W1:=⟨_,rfl⟩
 have hsz1:W1.heap.size=w.heap.size+2:=by rw[<-hW1];simp
 have hL1:W1.heap[l]?=some (.loop (rec .ready)):=by
  rw[<-hW1,hl0];have:=World.alloc_heap_new (w.alloc (.deferred (some []))) (.loop (rec .ready));rwa [World.size_alloc] at this
 have hD1:W1.heap[w.heap.size]?=some (.deferred (some [])):=by
  rw[<-hW1];exact (Below.heap_alloc _ _ _ (by simp)).trans (World.alloc_heap_new w _)
 have hext:Ext w W1:=by rw[<-hW1];exact (Ext.alloc w _).trans (Ext.alloc _ _)
 have hblk:∀ k,k < w.heap.size->W1.heap[k]?=w.heap[k]?:=fun k hk=>hext.block k hk
 have hcell1:∀ (p:Addr),p.block < w.heap.size->W1.cell? p=w.cell? p:=fun p hp=>by simp only[World.cell?,hblk p.block hp]
 refine ⟨l,[mk],W1,{ target:=.fn (.func k) #[.pointer (some ⟨B,ob,none⟩)],args:=#[.func (.yield l) #[] #[]] },W1,k,#[.func (.yield l) #[] #[]]++#[.pointer (some ⟨B,ob,none⟩)],W1,?_,?_,fun _ _=>trivial,?_,(fun h=>by cases h),?_⟩
 ·rw[<-hW1,hrec,hl0,hmk];exact run_enterLoop_outer _ _ _ _ _
 ·simp only[resolve,hgval]
  simp[go_sem]
 ·simp[invoke,go_sem,eg]
 let f:Int×Nat->Ah A.ps->Option (Ah A.ps):=fun p y=>(round p.1 p.2 y).bind fun o=>some (merge y o)
 let J:Nat->World->Prop:=fun k W=>∃ y β,Cg f ((xs:List Int).zipIdx.reverse.take k) y0=some y/\SimB Γc (encSt A y) aC W β/\W.heap[l]?=some (.loop (rec .ready))/\W.heap[w.heap.size]?=some (.deferred (some []))
 have hΓw:Γc.w=w:=by rw[hΓc]
 have hlΓ:Γc.w.heap.size<=l:=by rw[hΓw];omega
 have hfr:∀ {st':St} {W:World} {β':Nat->Option Place},SimB Γc st' aC W β'->∀ B,B < w.heap.size->¬ Av (Ax A.ps y0) βc B->W.heap[B]?=w.heap[B]?:=fun h B hB hn=>by
  have:=h.frm.block B (by rw[hΓw];exact hB) (by rw[hΓc];exact hn)
  rw[hΓw] at this;exact this
 refine CallsIn.mono (hback.2 B ob ad cap xs W1 l J (Nat.le_trans hlen (by decide)) ((hcell1 _ hBlt).trans hc0) (fun hne=>?_) (fun k x W hkx hJ=>?_) ?_) ?_
 ·obtain ⟨b,off,e,hb,_,hh⟩:=hcells hne
  exact ⟨b,off,e,fun k x hk=>(hcell1 _ hb).trans (hh k x hk)⟩
 ·-- a round
  obtain ⟨y,β,hy,hsW,hL,hD⟩:=hJ
  obtain ⟨y1,y2,e1,e2,e3⟩:=KY k _ y0 yN x hyN hkx
  have:some y=some y1:=hy.symm.trans e1
  cases this
  obtain ⟨x,i⟩:=x
  obtain ⟨ou,hou,hy2⟩:=AF e2
  cases hy2
  rw[<-hround] at hou
  have hlt:l < W.heap.size:=(Array.getElem?_eq_some_iff.1 hL).1
  have hyield:=run_yield (P:=V.P) (args:=Df kd (x,i)) hL (by rw[hrec];rfl)
  rw[hrec] at hyield
  refine ⟨fn,_,_,_,hyield,roundIn_of_wpIn hfn (TH (ro:=some l) ho hd hgd ⟨W.putObj l (.loop (rec .busy)),by have:=run_beginRound (P:=V.P) hL (by rw[hrec]);rw[hrec] at this ⊢;exact this,?_⟩)⟩
  obtain ⟨W2,hW2⟩:∃ W2,W.putObj l (.loop (rec .busy))=W2:=⟨_,rfl⟩
  rw[hW2]
  have hL2:W2.heap[l]?=some (.loop (rec .busy)):=by rw[<-hW2];exact World.putObj_heap_same hlt
  have hoth2:∀ k,k≠l->W2.heap[k]?=W.heap[k]?:=fun k hk=>by rw[<-hW2];exact World.putObj_heap_other hk
  have hsz2:W2.heap.size=W.heap.size:=by rw[<-hW2];simp
  have hs2':SimB Γc (encSt A y) aC W2 β:=GH (ds:=aC.defers) hsW (r:=l) (fun o ho=>by rw[hL] at ho;cases ho;exact ⟨by simp,by simp⟩) hlΓ (by rw[<-hW2];rfl) (by rw[<-hW2];rfl) (by rw[<-hW2];rfl) (by rw[hsz2];exact Nat.le_refl _) (fun B _ hne=>hoth2 B hne)
   (hsW.defers.keep fun D _ hD=>hoth2 D fun e=>by rw[e,hL] at hD;cases hD)
  have hm:=hmerge y ou
  unfold IC at hm
  obtain ⟨x',y',ou',hgx,⟨s1,t1',m1,hdx⟩,v,H,hH,hcore⟩:=HD (Γ:=Γc) (st:=encSt A y) (by rw[hΓc]) (by rw[hΓw];exact hG0) hm
  cases hgx
  have hd':=hdec y
  have hdx':Aq (lift A.ps (AA A.ps y 0 (cntK A.ps)) (Ax A.ps y)).2 [] A.ps (lift A.ps (AA A.ps y 0 (cntK A.ps)) (Ax A.ps y)).1=some (x',s1,t1',m1):=hdx
  rw[hdx'] at hd'
  simp only[Option.bind_some,Option.some.injEq] at hd'
  subst hd'
  obtain ⟨I,βd,hG,hgb,hctx,hrel,hIsub,_,hend⟩:=hcore aC W2 β hs2' _ (by have:=GP hs2' A.slots;rw[hslot] at this;exact this)
  obtain ⟨T,hT⟩:∃ T:Array Value,T=(#[t1,t2].zip (Df kd (x,i))).foldl (fun tmps (t,a)=>tmps.setIfInBounds t a) a.tmps:=⟨_,rfl⟩
  have hat:T=(a.tmps.setIfInBounds t1 (.int .i64 i)).setIfInBounds t2 (.int kd x):=by rw[hT];simp[Df]
  have hlenA:(encSt A x').tmps.length=a.tmps.size:=by have:=hsW.len;rw[haC] at this;exact this
  have hrel0:∀ (t:Nat) q,(encSt A x').tmps[t]?=some q->∃ v,a.tmps[t]?=some v/\RelV (Ac W2) I βd q v:=by
   intro t q hq
   have ht:t < a.tmps.size:=by rw[<-hlenA];exact (List.getElem?_eq_some_iff.1 hq).1
   refine ⟨_,Fa ht,?_⟩
   rcases EU _ _ _ t q hq with hh | ⟨i,h1,h2⟩
   ·rw[List.getElem?_replicate] at hh
    split at hh
    ·cases hh;simp[RelV]
    ·cases hh
   ·obtain ⟨v,hv,hr⟩:=BS _ _ hrel i q h2
    simp only[List.getElem?_map,h1,Option.map_some,Option.some.injEq] at hv
    subst hv
    rw[haC] at hr
    exact hr
  have hrel2:=G4 (R:=RelV (Ac W2) I βd) (G4 (R:=RelV (Ac W2) I βd) hrel0 hlenA (x:=.int .i64 i) (v:=.int .i64 i) (by simp[RelV]) t1) (by simp[hlenA]) (x:=.int kd x) (v:=.int kd x) (by simp[RelV]) t2
  have hsim:SimB ⟨V.gb,W2,I,βd,Ax A.ps x'⟩ (JN A t1 t2 s d kd x i x') (({ tmps:=T,defers:=[] }:Act).put (some d) (({ tmps:=T,defers:=[] }:Act).eval (.tmp s))) W2 βd:=by
   refine HJ hctx hgb ?_ ?_ (by have:=EC A.ps x';show cntK A.ps<=(Ax A.ps x').length;omega)
   ·simp[Act.put,hat,hlenA]
   ·have:=G4 (R:=RelV (Ac W2) I βd) hrel2 (by simp[hlenA]) (QQ hrel2 s) d
    simp only[Act.put,Act.eval,hat]
    exact this
  rw[<-hT]
  unfold Hj at hou
  refine CU (ro:=some l) hE (Γ:=⟨V.gb,W2,I,βd,Ax A.ps x'⟩) rfl hG body (hl l _ rfl hG) _ _ _ _ hou _ W2 ⟨βd,hsim⟩ _ fun ex st' a' W3 hs3 hK3=>?_
  cases ex with
  |exit id=>cases hK3
  |ret=>cases hK3
  |normal=>
  obtain ⟨⟨un,o3⟩,hfin,ho3⟩:=AF hK3
  cases ho3
  obtain ⟨β3,hs3⟩:=hs3
  obtain ⟨us3,I3,β4,g1,g2,g3,g4⟩:=Hk hE (vs:=(A.slots.map fun t=>a.eval (.tmp t)).toArray) (by rw[haC] at hrel;have:(fun t=>({ tmps:=a.tmps,defers:=[] }:Act).eval (.tmp t))=fun t=>a.eval (.tmp t):=rfl;rw[this] at hrel;simpa using hrel) hs3 hfin
  obtain ⟨β5,k1,_,k3⟩:=hend W3 us3 I3 β4 g2 g3 g4
  obtain ⟨β6,k4,k5⟩:=Nb hH k1
  have hlive:∀ k,(∀ x,W2.heap[k]?≠some (.deferred x))/\(∀ x,W2.heap[k]?≠some (.loop x))\/¬ Av (Ax A.ps x') βd k:=fun k=>by
   by_cases hh:Av (Ax A.ps x') βd k
   ·exact .inl (hctx.live_obj hh)
   ·exact .inr hh
  have hD2:W2.heap[w.heap.size]?=some (.deferred (some [])):=(hoth2 _ (by omega)).trans hD
  have hL3:W3.heap[l]?=some (.loop (rec .busy)):=(g2.block l (by omega) ((hlive l).elim (fun h=>absurd hL2 (h.2 _)) id)).trans hL2
  have hD3:W3.heap[w.heap.size]?=some (.deferred (some [])):=(g2.block _ (Array.getElem?_eq_some_iff.1 hD2).1 ((hlive _).elim (fun h=>absurd hD2 (h.1 _)) id)).trans hD2
  have hlt3:l < W3.heap.size:=(Array.getElem?_eq_some_iff.1 hL3).1
  have hsim6:SimB Γc (encSt A (merge x' o3)) aC (W3.putObj l (.loop (rec .ready))) β6:=GH (w':=W3.putObj l (.loop (rec .ready))) (ds:=aC.defers) k4 (r:=l) (fun o ho=>by rw[hL3] at ho;cases ho;exact ⟨by simp,by simp⟩) hlΓ rfl rfl rfl (by simp) (fun B _ hne=>World.putObj_heap_other hne)
   (k4.defers.keep fun D _ hD=>World.putObj_heap_other fun e=>by rw[e,hL3] at hD;cases hD)
  have hkeep:∀ B,B < w.heap.size->¬ Av (Ax A.ps y0) βc B->(W3.putObj l (.loop (rec .ready))).heap[B]?=W.heap[B]?:=fun B hB hn=>(hfr hsim6 B hB hn).trans (hfr hsW B hB hn).symm
  refine ⟨.bool true,W3.putObj l (.loop (rec .ready)),by have:=run_endRound (P:=V.P) none hL3;rw[hrec] at this ⊢;exact this,rfl,⟨merge x' o3,β6,e3,hsim6,World.putObj_heap_same hlt3,(World.putObj_heap_other (by omega)).trans hD3⟩,?_,?_,?_⟩
  ·have:=g2.size;rw[World.putObj_size];omega
  ·exact hkeep _ hBlt hBnl
  ·intro k hk
   cases had:ad with
   |none=>rw[had] at hk;cases hk
   |some ad'=>
    rw[had] at hk
    simp only[Option.map_some,Option.some.injEq] at hk
    by_cases hne:xs=[]
    ·subst hne;simp at hkx
    ·obtain ⟨b',off',e',hb1,hb2,_⟩:=hcells hne
     have e2:=had.symm.trans e'
     cases e2
     subst hk
     exact hkeep _ hb1 hb2
 ·exact ⟨y0,βc,rfl,hs2.ext hext,hL1,hD1⟩
 ·rintro e W ⟨⟨v,rfl⟩,y,β',hy,hsW,hL,hD⟩
  have hlen2:(xs:List Int).zipIdx.reverse.take (xs:List Int).length=(xs:List Int).zipIdx.reverse:=List.take_of_length_le (by simp)
  rw[hlen2] at hy
  have:some y=some yN:=hy.symm.trans hyN
  cases this
  rw[hΓc] at hsW
  obtain ⟨us3,I3,β4,f1,f2,f3,f4⟩:=Hk hE (vs:=(A.slots.map fun t=>a.eval (.tmp t)).toArray) (by simpa using hrel0) hsW (houts yN)
  obtain ⟨β5,k1,_,_⟩:=hend0 W us3 I3 β4 f2 f3 f4
  refine ⟨none,W.putObj l (.loop (rec .exhausted)),by have:=run_endLoop (P:=V.P) hL (by rw[hrec];simp);rw[hrec] at this ⊢;exact this,hQ .normal { st with heap:=H0 } _ _ ⟨β5,?_⟩ hK0⟩
  refine GH (w':=W.putObj l (.loop (rec .exhausted))) (ds:=[mk]++a.defers) k1 (r:=l) (fun o ho=>by rw[hL] at ho;cases ho;exact ⟨by simp,by simp⟩) (by have:=hs.frm.size;omega) rfl rfl rfl (by simp) (fun B _ hne=>World.putObj_heap_other hne) ⟨?_,?_⟩
  ·refine List.nodup_cons.2 ⟨fun hmem=>?_,hs.defers.1⟩
   obtain ⟨D,h1,_,h3⟩:=hs.defers.2 _ hmem
   rw[hmk] at h1
   cases h1
   have:=(Array.getElem?_eq_some_iff.1 h3).1
   omega
  ·intro d' hd'
   rcases List.mem_cons.1 hd' with rfl | hd'
   ·exact ⟨w.heap.size,hmk,hs.frm.size,(World.putObj_heap_other (by omega)).trans hD⟩
   ·obtain ⟨D,h1,h2,h3⟩:=k1.defers.2 _ hd'
    exact ⟨D,h1,h2,(World.putObj_heap_other fun e=>by rw[e,hL] at h3;cases h3).trans h3⟩
end
end Go.AM
end
section
namespace Go.AM
open Go.RowKit (Below)
def Ds:Code->Bool
 |.loop _=>true
 |_=>false
def OD:Code->Bool
 |.rangeFunc ..=>true
 |_=>false
def Ef:Code->Code
 |.loop a=>a
 |.rangeFunc _ _ _ a=>a
 |_=>.skip
def AO:Code->List Code
 |.seq a b=>AO a++AO b
 |.cond _ a b=>AO a++AO b
 |.block _ a=>AO a
 |.loop a=>.loop a::AO a
 |.rangeFunc g ps a c=>.rangeFunc g ps a c::AO c
 |.region id ops draw=>if Hz draw ops then [.region id ops draw] else []
 |_=>[]
def pick (id:Nat):List Code->Code
 |[]=>.skip
 |a::l=>cond (Nat.beq (Bh a) id) a (pick id l)
theorem FM:∀ (l:List Code) {a:Code},a∈l->Bg (l.map Bh)=true->pick (Bh a) l=a
 |b::l,a,h,hn=>by
  simp only[List.map_cons,Bg,qY0,Bool.not_eq_true'] at hn
  simp only[pick]
  by_cases e:Bh b=Bh a
  ·rw[e,show Nat.beq (Bh a) (Bh a)=true from by simp]
   rcases List.mem_cons.1 h with rfl | h
   ·rfl
   ·have:=hn.1
    rw[e] at this
    simp only[List.contains_eq_mem,decide_eq_false_iff_not,List.mem_map,not_exists,not_and] at this
    exact absurd rfl (this a h)
  ·have e':Nat.beq (Bh b) (Bh a)=false:=by
    cases hb:Nat.beq (Bh b) (Bh a) with
    |false=>rfl
    |true=>exact absurd (Nat.eq_of_beq_eq_true hb) e
   rw[e']
   rcases List.mem_cons.1 h with rfl | h
   ·exact absurd rfl e
   ·exact FM l h hn.2
inductive LE where
 |lp (id:Nat) (A:Ann) (exs:List Ex) (step:Ah A.ps->Option (Ex×Ah A.ps))
 |raw (id:Nat) (L:LoopO)
 |lr (id:Nat) (A R:Ann) (exs:List Ex) (step:Ah A.ps->Option (Ex×(Ah A.ps ⊕ Ah R.ps)))
def LE.key:LE->Nat
 |.lp id _ _ _=>id
 |.raw id _=>id
 |.lr id _ _ _ _=>id
noncomputable def LE.lo:LE->LoopO
 |.lp _ A exs step=>H3 A exs step
 |.raw _ L=>L
 |.lr _ A R exs step=>IH A R exs step
noncomputable def Fz:List LE->Nat->Option LoopO
 |[],_=>none
 |e::l,i=>if i=e.key then some e.lo else Fz l i
theorem Gm:∀ {l:List LE} {i:Nat} {L:LoopO},Fz l i=some L->∃ e∈l,e.key=i/\e.lo=L
 |e::l,i,L,h=>by
  simp only[Fz] at h
  split at h
  ·rename_i hi;cases h;exact ⟨e,List.mem_cons_self,hi.symm,rfl⟩
  ·obtain ⟨e',h1,h2⟩:=Gm h;exact ⟨e',List.mem_cons_of_mem _ h1,h2⟩
def J0 (V:Env) (E:Tab) (ro:Option Nat) (c:Code):Prop:=∀ Γ:Base,Γ.gb=V.gb->V.G Γ.w->∀ a∈AY c,∀ L,E.lp (Bh a)=some L->B4 V Γ ro a fun ρ=>L.f ρ
def LE.OK (V:Env) (E:Tab) (c:Code):LE->Prop
 |.lp id A _ step=>∀ x,run E (Ef (pick id (AO c))) (encSt A x) (fun ex st=>(Cc A (B3 A st)).bind fun y=>some (ex,y))=step x
 |.raw id L=>∀ (Γ:Base) (ro:Option Nat),Γ.gb=V.gb->V.G Γ.w->(ro=none\/OD (pick id (AO c))=false)->(∀ ro',ro=none->J0 V E ro' (Ef (pick id (AO c))))->B4 V Γ ro (pick id (AO c)) fun ρ=>L.f ρ
 |.lr id A R _ step=>∀ x,run E (Ef (pick id (AO c))) (encSt A x) (DI A R)=step x
def CK (V:Env) (E:Tab) (c:Code) (l:List LE):Prop:=∀ e∈l,e.OK V E c
def Fd (c:Code) (l:List LE):Bool:=Bg ((AO c).map Bh)&&l.all fun e=>match e with
 |.lp id _ _ _ | .lr id _ _ _ _=>Ds (pick id (AO c))
 |.raw id _=>!Ds (pick id (AO c))
def Bi:Code->Bool
 |.seq a b=>Bi a&&Bi b
 |.cond _ a b=>Bi a&&Bi b
 |.block _ a=>Bi a
 |.loop a=>Bi a
 |.rangeFunc ..=>false
 |_=>true
def Bp:Code->Bool
 |.seq a b=>Bp a&&Bp b
 |.cond _ a b=>Bp a&&Bp b
 |.block _ a=>Bp a
 |.loop a=>Bp a
 |.rangeFunc _ _ _ a=>Bi a
 |_=>true
section
variable {V:Env} {E:Tab}
theorem C4 (hE:TabOK V E) {l:List LE} (hl:∀ i,E.lp i=Fz l i) {body:Code} (hc:Fd body l=true) (hok:CK V E body l):∀ (c:Code),(∀ a∈AO c,a∈AO body)->∀ ro,(ro=none/\Bp c=true\/Bi c=true)->J0 V E ro c
 |.seq a b,hs,ro,hf=>fun Γ hg h0 x hx=>by
  simp only[AY,qZ7] at hx
  have hfa:(ro=none/\Bp a=true\/Bi a=true)/\(ro=none/\Bp b=true\/Bi b=true):=by
   rcases hf with ⟨h1,h2⟩ | h2
   ·simp only[Bp,qY0] at h2;exact ⟨.inl ⟨h1,h2.1⟩,.inl ⟨h1,h2.2⟩⟩
   ·simp only[Bi,qY0] at h2;exact ⟨.inr h2.1,.inr h2.2⟩
  rcases hx with hx | hx
  ·exact C4 hE hl hc hok a (fun y hy=>hs y (by simp[AO,hy])) ro hfa.1 Γ hg h0 x hx
  ·exact C4 hE hl hc hok b (fun y hy=>hs y (by simp[AO,hy])) ro hfa.2 Γ hg h0 x hx
 |.cond _ a b,hs,ro,hf=>fun Γ hg h0 x hx=>by
  simp only[AY,qZ7] at hx
  have hfa:(ro=none/\Bp a=true\/Bi a=true)/\(ro=none/\Bp b=true\/Bi b=true):=by
   rcases hf with ⟨h1,h2⟩ | h2
   ·simp only[Bp,qY0] at h2;exact ⟨.inl ⟨h1,h2.1⟩,.inl ⟨h1,h2.2⟩⟩
   ·simp only[Bi,qY0] at h2;exact ⟨.inr h2.1,.inr h2.2⟩
  rcases hx with hx | hx
  ·exact C4 hE hl hc hok a (fun y hy=>hs y (by simp[AO,hy])) ro hfa.1 Γ hg h0 x hx
  ·exact C4 hE hl hc hok b (fun y hy=>hs y (by simp[AO,hy])) ro hfa.2 Γ hg h0 x hx
 |.block _ a,hs,ro,hf=>fun Γ hg h0 x hx=>by
  simp only[AY] at hx
  exact C4 hE hl hc hok a (fun y hy=>hs y (by simpa [AO] using hy)) ro (by simpa [Bi,Bp] using hf) Γ hg h0 x hx
 |.loop a,hs,ro,hf=>fun Γ hg h0 x hx L hL=>by
  simp only[AY,qZ8] at hx
  subst hx
  have hin:=C4 hE hl hc hok a (fun y hy=>hs y (by simp[AO,hy])) ro (by simpa [Bi,Bp] using hf) Γ hg h0
  simp only[Fd,qY0] at hc
  have hp:=FM _ (hs (.loop a) (by simp[AO])) hc.1
  rw[hl] at hL
  obtain ⟨e,he,hk,rfl⟩:=Gm hL
  cases e with
  |lp id A exs step=>
   simp only[LE.key] at hk;subst hk
   have h:=hok _ he
   simp only[LE.OK] at h
   rw[hp] at h
   exact SB hE hg h0 hin h
  |lr id A R exs step=>
   simp only[LE.key] at hk;subst hk
   have h:=hok _ he
   simp only[LE.OK] at h
   rw[hp] at h
   exact OP hE hg h0 hin h
  |raw id L=>
   simp only[LE.key] at hk;subst hk
   have:=List.all_eq_true.1 hc.2 _ he
   simp only[hp,Ds,Bool.not_true] at this
   cases this
 |.rangeFunc g ps r a,hs,ro,hf=>fun Γ hg h0 x hx L hL=>by
  simp only[AY,qZ8] at hx
  subst hx
  have hro:ro=none/\Bi a=true:=by
   rcases hf with ⟨h1,h2⟩ | h
   ·exact ⟨h1,by simpa [Bp] using h2⟩
   ·simp[Bi] at h
  have hin:=fun ro'=>C4 hE hl hc hok a (fun y hy=>hs y (by simp[AO,hy])) ro' (.inr hro.2)
  simp only[Fd,qY0] at hc
  have hp:=FM _ (hs (.rangeFunc g ps r a) (by simp[AO])) hc.1
  rw[hl] at hL
  obtain ⟨e,he,hk,rfl⟩:=Gm hL
  cases e with
  |lp id A exs step=>
   simp only[LE.key] at hk;subst hk
   have:=List.all_eq_true.1 hc.2 _ he
   simp only[hp,Ds] at this
   cases this
  |lr id A R exs step=>
   simp only[LE.key] at hk;subst hk
   have:=List.all_eq_true.1 hc.2 _ he
   simp only[hp,Ds] at this
   cases this
  |raw id L=>
   simp only[LE.key] at hk;subst hk
   have h:=hok _ he
   simp only[LE.OK] at h
   rw[hp] at h
   exact h Γ ro hg h0 (.inl hro.1) fun ro' _=>hin ro'
 |.region id ops draw,hs,ro,hf=>fun Γ hg h0 x hx L hL=>by
  simp only[AY] at hx
  split at hx
  case isFalse=>simp at hx
  rename_i hh
  simp only[qZ8] at hx
  subst hx
  simp only[Fd,qY0] at hc
  have hp:=FM _ (hs (.region id ops draw) (by simp[AO,hh])) hc.1
  rw[hl] at hL
  obtain ⟨e,he,hk,rfl⟩:=Gm hL
  cases e with
  |lp id' A exs step=>
   simp only[LE.key] at hk;subst hk
   have:=List.all_eq_true.1 hc.2 _ he
   simp only[hp,Ds] at this
   cases this
  |lr id' A R exs step=>
   simp only[LE.key] at hk;subst hk
   have:=List.all_eq_true.1 hc.2 _ he
   simp only[hp,Ds] at this
   cases this
  |raw id' L=>
   simp only[LE.key] at hk;subst hk
   have h:=hok _ he
   simp only[LE.OK] at h
   rw[hp] at h
   exact h Γ ro hg h0 (.inr rfl) fun ro' _ Γ' _ _ b hb=>by simp[Ef,AY] at hb
 |.skip,_,_,_ | .exit ..,_,_,_ | .ret,_,_,_ | .label ..,_,_,_ | .goto ..,_,_,_ | .scope ..,_,_,_ | .refuse ..,_,_,_=>fun Γ hg h0 x hx=>by simp[AY] at hx
theorem AC {c:Code}:CK V E c []:=fun e h=>by cases h
theorem Au {c:Code} {id:Nat} {A:Ann} {exs:List Ex} {step:Ah A.ps->Option (Ex×Ah A.ps)} {l:List LE} (h:∀ x,run E (Ef (pick id (AO c))) (encSt A x) (fun ex st=>(Cc A (B3 A st)).bind fun y=>some (ex,y))=step x) (r:CK V E c l):CK V E c (.lp id A exs step::l):=fun e he=>by
 rcases List.mem_cons.1 he with rfl | he
 ·exact h
 ·exact r e he
theorem Qy {c:Code} {id:Nat} {A R:Ann} {exs:List Ex} {step:Ah A.ps->Option (Ex×(Ah A.ps ⊕ Ah R.ps))} {l:List LE} (h:∀ x,run E (Ef (pick id (AO c))) (encSt A x) (DI A R)=step x) (r:CK V E c l):CK V E c (.lr id A R exs step::l):=fun e he=>by
 rcases List.mem_cons.1 he with rfl | he
 ·exact h
 ·exact r e he
theorem Ls {c:Code} {id:Nat} {L:LoopO} {l:List LE} (h:(LE.raw id L).OK V E c) (r:CK V E c l):CK V E c (.raw id L::l):=fun e he=>by
 rcases List.mem_cons.1 he with rfl | he
 ·exact h
 ·exact r e he
theorem L6 {A:Ann} {kb:Nat} {kd:IntKind} {g:Operand} {t1 t2 s d rid:Nat} {o:Oper} {body c:Code} {id:Nat} {round:Int->Nat->Ah A.ps->Option (A_ A.ps)} {merge:Ah A.ps->A_ A.ps->Ah A.ps} {outs:Ah A.ps->A_ A.ps} (hE:TabOK V E)
 (hback:GC V.P kb kd) (hp:pick id (AO c)=.rangeFunc g #[t1,t2] (.region rid #[o] false) body) (ho:o.op=.assign (.tmp s)) (hd:o.dst=some d) (hgd:o.guard=none)
 (hround:∀ v i y,Hj E A t1 t2 s d kd body v i y=round v i y) (hmerge:∀ y o,IC A y o=some (merge y o))
 (hdec:∀ y,(Aq (lift A.ps (AA A.ps y 0 (cntK A.ps)) (Ax A.ps y)).2 [] A.ps (lift A.ps (AA A.ps y 0 (cntK A.ps)) (Ax A.ps y)).1).bind (fun r=>some r.1)=some y)
 (hslot:∀ y,(A.slots.map fun t=>(encSt A y).tmps.getD t .any)=AA A.ps y 0 (cntK A.ps)) (hog:A.og=List.range (cntK A.ps)) (houts:∀ y,DF E [] A.ps [] (encSt A y)=some ((),outs y)) :
 (LE.raw id (Fn A kb kd g (fun v i y=>(round v i y).bind fun o=>some (merge y o)) outs)).OK V E c:=fun Γ ro hg h0 hro hin=>by
 rw[hp] at hro hin ⊢
 obtain rfl:ro=none:=hro.elim (fun h=>h) fun h=>by cases h
 exact ON hE hg h0 hback ho hd hgd (fun l Γ' hg' h0'=>hin (some l) rfl Γ' hg' h0') hround hmerge hdec hslot hog houts
abbrev FL:=List (Nat×Option Nat×Callee)
structure Fs (P:Program) (V:Env) (l:FL):Prop where
 prog:V.P=P
 all:GB V l
theorem Fs.cons {P:Program} {l:FL} (h:Fs P V l) {k:Nat} {s:Option Nat} {C:Callee} (g:Good V k C):Fs P V ((k,s,C)::l):=⟨h.prog,Ty g h.all⟩
noncomputable def Fb (ti:List (Nat×TI)) (fl:FL) (ls:List LE) (lit:List Nat) (pr:List (Nat×List Nat×List Nat)) (bk:List (Nat×Nat)):Tab:=⟨Ct ti,FP fl,Fz ls,lit,pr,bk⟩
def Il (fn : Func) (C : Callee) (ls : List LE) : Bool := fn.body.isSome && !(fn.name == "runtime.NumGoroutine") && Nat.ble C.ps.length fn.ntmps && Bp (fb fn) && Fd (fb fn) ls
theorem TY {P:Program} {ti:List (Nat×TI)} {fl:FL} {ls:List LE} {lit:List Nat} {pr:List (Nat×List Nat×List Nat)} {bk:List (Nat×Nat)} (h:Fs P V fl) (hti:Dw P ti) (hbk:E4 P bk):TabOK V (Fb ti fl ls lit pr bk):=⟨h.prog ▸ hti,h.all,h.prog ▸ hbk⟩
theorem gd {P:Program} {ti:List (Nat×TI)} {fl:FL} (ls:List LE) (lit:List Nat) (pr:List (Nat×List Nat×List Nat)) {bk:List (Nat×Nat)} {k:Nat} {fn:Func} {C:Callee} (h:Fs P V fl) (hti:Dw P ti) (hbk:E4 P bk) (hf:P.funcs[k]?=some fn) (hc:Il fn C ls=true)
 (hls:TabOK V (Fb ti fl ls lit pr bk)->CK V (Fb ti fl ls lit pr bk) (fb fn) ls) (hr:∀ x,Gl (Fb ti fl ls lit pr bk) fn.ntmps fn.results.toList (fb fn) C.ps C.rk x=C.g x):Good V k C:=by
 simp only[Il,qY0,Bool.not_eq_true'] at hc
 obtain ⟨⟨⟨⟨h1,h2⟩,h3⟩,h4⟩,h5⟩:=hc
 have hb:fn.body=some (fb fn):=by
  unfold fb
  cases hh:fn.body with
  |none=>rw[hh] at h1;cases h1
  |some c=>rfl
 have hE:=TY (ls:=ls) (lit:=lit) (pr:=pr) h hti hbk
 exact TJ hE (h.prog ▸ hf) hb h2 (Nat.le_of_ble_eq_true h3) (fun Γ hg h0=>C4 hE (fun _=>rfl) h5 (hls hE) (fb fn) (fun _ h=>h) none (.inl ⟨rfl,h4⟩) Γ hg h0) hr
theorem gz {P:Program} {ti:List (Nat×TI)} {fl:FL} {k:Nat} {fn:Func} {C:Callee} (h:Fs P V fl) (hti:Dw P ti) (hf:P.funcs[k]?=some fn) (hc:Il fn C []=true)
 (hr:∀ x,Gl (Fb ti fl [] [] [] []) fn.ntmps fn.results.toList (fb fn) C.ps C.rk x=C.g x):Good V k C:=gd [] [] [] h hti AB hf hc (fun _=>AC) hr
end
end Go.AM
end
section
namespace Go.AM.Num
def strings_Cut (s sep:qBs):Option ((qBs×qBs×Bool×Unit)×Unit):=
 if s.length < 4294967281 then some (((Lib.cut s sep).1,(Lib.cut s sep).2.1,(Lib.cut s sep).2.2,()),()) else none
def strings_CutPrefix (s p:qBs):Option ((qBs×Bool×Unit)×Unit):=some ((Lib.trimPrefix s p,Lib.hasPrefix s p,()),())
def He:Callee:=⟨[.val .str,.val .str],[.val .str,.val .str,.val .bool],fun x=>strings_Cut x.1 x.2.1⟩
def Ig:Callee:=⟨[.val .str,.val .str],[.val .str,.val .bool],fun x=>strings_CutPrefix x.1 x.2.1⟩
def strings_Repeat (s:qBs) (n:Int):Option ((qBs×Unit)×Unit):=
 if 0<=n/\n<=9223372036854775807/\s.length * n.toNat<=140737488355328 then some ((Lib.repeatL s n.toNat,()),()) else none
def HP:Callee:=⟨[.val .str,.val (.int .i64)],[.val .str],fun x=>strings_Repeat x.1 x.2.1⟩
def FC (n:Int):Prop:=-9223372036854775808<=n/\n<=9223372036854775807
instance (n:Int):Decidable (FC n):=by unfold FC;infer_instance
def D7 (n b:Int):Option ((qBs×Unit)×Unit):=if FC n/\b=10 then some ((Lib.itoa n,()),()) else none
def G1:Callee:=⟨[.val (.int .i64),.val (.int .i64)],[.val .str],fun x=>D7 x.1 x.2.1⟩
def EY (s cut:qBs):Option ((qBs×Unit)×Unit):=
 if s.length<=9223372036854775807/\cut.length < 4294967281/\cut.all (fun b=>decide (b.toNat < 128))=true then some ((Lib.trimS s cut,()),()) else none
def HU:Callee:=⟨[.val .str,.val .str],[.val .str],fun x=>EY x.1 x.2.1⟩
def strings_IndexByte (s:qBs) (c:Int):Option ((Int×Unit)×Unit):=some ((Lib.indexByte s c.toNat.toUInt8,()),())
def IU:Callee:=⟨[.val .str,.val (.int .u8)],[.val (.int .i64)],fun x=>strings_IndexByte x.1 x.2.1⟩
def Gv (n b:Int):Option ((qBs×Unit)×Unit):=if 0<=n/\n<=18446744073709551615/\b=10 then some ((Lib.decDigits n.toNat,()),()) else none
def HN:Callee:=⟨[.val (.int .u64),.val (.int .i64)],[.val .str],fun x=>Gv x.1 x.2.1⟩
def Ez (s:qBs) (b w:Int):Option ((Int×Bool×Unit)×Unit):=
 if b=10/\w=64/\s.length<=281474976710656 then
  match Lib.parseIntB 64 s with
  |.ok v=>some ((v,false,()),())
  |_=>none
 else none
def Ia:Callee:=⟨[.val .str,.val (.int .i64),.val (.int .i64)],[.val (.int .i64),.val .err],fun x=>Ez x.1 x.2.1 x.2.2.1⟩
def EP (b:Unit×List Int):Option ((qBs×Unit)×Unit):=Aa (decide (0 < b.2.length)) (some ((b.2.map fun n=>UInt8.ofNat n.toNat,()),()))
def JA:Callee:=⟨[.obj (.box (.pair .slf (.own (.int .u8))))],[.val .str],fun x=>EP x.1⟩
def Hf (b:Unit×List Int):Option (Unit×((Unit×List Int)×Unit)):=some ((),(b,()))
def Kx:Callee:=⟨[.box (.pair .slf (.own (.int .u8)))],[],fun x=>Hf x.1⟩
end Go.AM.Num
end
