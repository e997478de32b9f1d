/- Law TermRebuild: a part of its proof. No conditions. -/
import Derived.Test.YtppjkoefhkcjfaaGreatDoorTermRebuild2
import Derived.LoopNIn
import Derived.RangeFuncLeaves
import Derived.RangeFuncWrites
import Derived.KernelRfl
import Derived.RangeFuncKeeps
import Derived.RangeFuncRecord
import Derived.RangeFuncSeq
import Derived.Lib.Repeat
import Derived.Lib.ParseIntB
import Derived.Lib.Strings
import Derived.Lib.SlTrimSet
import Derived.Lib.Atoi
import Derived.Lib.AtoiAll
import Derived.Lib.ItoaNum
import Derived.Lib.IndexMore
import Derived.Lib.Bytealg
set_option linter.unusedSimpArgs false
set_option linter.unusedVariables false
section
namespace Go.AM
open Go.RowKit (Below)
def Ex.toExit:Ex->Exit
 |.normal=>.normal
 |.exit id=>.exit id
 |.ret=>.ret
def DP (V:Env) (Γ:Base) (ro:Option Nat) (c:Code) (f:(ρ:Type)->St->(Ex->St->Option ρ)->Option ρ):Prop:=
 ∀ (ρ:Type) (st:St) (K:Ex->St->Option ρ) (z:ρ),f ρ st K=some z->∀ a w,BC Γ st a w->∀ Q:Exit->Act->World->Prop,
 (∀ ex st' a' w',BC Γ st' a' w'->K ex st'=some z->Q ex.toExit a' w')->c.wpIn (FR ro) 0 V.P Q a w
def BA:Code->List Code
 |.seq a b=>BA a++BA b
 |.cond _ a b=>BA a++BA b
 |.block _ a=>BA a
 |.loop a=>[.loop a]
 |.rangeFunc g ps a c=>[.rangeFunc g ps a c]
 |.region id ops draw=>if OE draw ops then [.region id ops draw] else []
 |_=>[]
theorem O9 {st:St} {c:Operand} {b:Bool} (h:st.ev c=.bool b):st.refine c b=st:=by
 cases c with
 |tmp t=>
  refine QP ?_
  simp only[St.ev,qZ4] at h
  cases hx:st.tmps[t]? with
  |none=>rw[hx] at h;simp at h
  |some x=>rw[hx] at h;simp only[Option.getD_some] at h;rw[h]
 |_=>rfl
section
variable {V:Env} {Γ:Base} {E:Tab} {ro:Option Nat}
theorem EY (hE:TabOK V E) (hg:Γ.gb=V.gb) (h0:V.G Γ.w):∀ (c:Code),(∀ a∈BA c,∀ L,E.lp (Ck a)=some L->DP V Γ ro a fun ρ=>L.f ρ)->DP V Γ ro c fun ρ=>run (ρ:=ρ) E c
 |.skip,_=>fun ρ st K z h a w hs Q hQ=>wpIn_skip (hQ .normal st a w hs h)
 |.region id ops draw,hl=>fun ρ st K z h a w hs Q hQ=>by
  simp only[run] at h
  split at h
  ·split at h
   ·rename_i hh
    split at h
    ·rename_i L hL
     exact hl (.region id ops draw) (by simp[BA,hh]) L hL ρ st K z h a w hs Q hQ
    ·cases h
   ·cases h
  ·rename_i hd
   cases draw with
   |false=>exact VL hE hg h0 (fun st' a' w' hs' h'=>hQ .normal st' a' w' hs' h') h hs
   |true=>
    have hd':GL E LX ((He E id st).map (·.2)) ops=true:=by simpa using hd
    exact AEv hE hg h0 hd' (fun st' a' w' hs' h'=>hQ .normal st' a' w' hs' h') h hs
 |.seq x y,hl=>fun ρ st K z h a w hs Q hQ=>by
  simp only[run] at h
  have ihx:=EY hE hg h0 x fun a ha=>hl a (by simp[BA,ha])
  have ihy:=EY hE hg h0 y fun a ha=>hl a (by simp[BA,ha])
  refine wpIn_seq (ihx ρ st _ z h a w hs _ fun ex st' a' w' hs' h'=>?_)
  cases ex with
  |normal=>exact ihy ρ st' K z h' a' w' hs' Q hQ
  |exit id=>exact hQ (.exit id) st' a' w' hs' h'
  |ret=>exact hQ .ret st' a' w' hs' h'
 |.cond c x y,hl=>fun ρ st K z h a w hs Q hQ=>by
  simp only[run] at h
  split at h
  ·rename_i t ht
   obtain ⟨β,hb⟩:=hs
   have hv:=Ax hb c
   rw[ht] at hv;simp only[RelV] at hv
   refine wpIn_cond hv ?_
   cases t with
   |true=>rw[O9 ht] at h;exact EY hE hg h0 x (fun a ha=>hl a (by simp[BA,ha])) ρ st K z h a w ⟨β,hb⟩ Q hQ
   |false=>rw[O9 ht] at h;exact EY hE hg h0 y (fun a ha=>hl a (by simp[BA,ha])) ρ st K z h a w ⟨β,hb⟩ Q hQ
  ·cases h
 |.block id x,hl=>fun ρ st K z h a w hs Q hQ=>by
  simp only[run] at h
  refine wpIn_block (EY hE hg h0 x (fun a ha=>hl a (by simpa [BA] using ha)) ρ st _ z h a w hs _ fun ex st' a' w' hs' h'=>?_)
  cases ex with
  |normal=>exact hQ .normal st' a' w' hs' h'
  |exit id'=>
   simp only[Ex.toExit,Exit.inBlock]
   simp only at h'
   split at h'
   ·rename_i e;rw[if_pos e];exact hQ .normal st' a' w' hs' h'
   ·rename_i e;rw[if_neg e];exact hQ (.exit id') st' a' w' hs' h'
  |ret=>exact hQ .ret st' a' w' hs' h'
 |.exit id,_=>fun ρ st K z h a w hs Q hQ=>wpIn_exit (hQ (.exit id) st a w hs h)
 |.ret,_=>fun ρ st K z h a w hs Q hQ=>wpIn_ret (hQ .ret st a w hs h)
 |.loop x,hl=>fun ρ st K z h a w hs Q hQ=>by
  simp only[run] at h
  split at h
  ·rename_i L hL
   exact hl (.loop x) (by simp[BA]) L hL ρ st K z h a w hs Q hQ
  ·cases h
 |.rangeFunc g ps x c,hl=>fun ρ st K z h a w hs Q hQ=>by
  simp only[run] at h
  split at h
  ·rename_i L hL
   exact hl (.rangeFunc g ps x c) (by simp[BA]) L hL ρ st K z h a w hs Q hQ
  ·cases h
 |.label ..,_ | .goto ..,_ | .scope ..,_ | .refuse ..,_=>fun ρ st K z h a w hs Q hQ=>by simp[run] at h
end
inductive LoopN {α:Type} (step:α->Option (Ex×α)):Nat->α->Ex×α->Prop where
 |done {x y:α} {ex:Ex} (h:step x=some (ex,y)) (hx:ex≠.normal):LoopN step 0 x (ex,y)
 |more {x y:α} {n:Nat} {r:Ex×α} (h:step x=some (.normal,y)) (hn:LoopN step n y r):LoopN step (n+1) x r
theorem LoopN.det {α:Type} {step:α->Option (Ex×α)} {n:Nat} {x:α} {r:Ex×α} (h:LoopN step n x r):∀ {m:Nat} {r':Ex×α},LoopN step m x r'->r=r':=by
 induction h with
 |done h hx=>
  intro m r' h'
  cases h' with
  |done h2 _=>rw[h] at h2;cases h2;rfl
  |more h2 _=>rw[h] at h2;cases h2;exact absurd rfl hx
 |more h _ ih=>
  intro m r' h'
  cases h' with
  |done h2 hx=>rw[h] at h2;cases h2;exact absurd rfl hx
  |more h2 hn=>rw[h] at h2;cases h2;exact ih hn
open Classical in
noncomputable def Ei {α:Type} (step:α->Option (Ex×α)) (x:α):Option (Ex×α):=
 if h:∃ r n,LoopN step n x r then some h.choose else none
theorem FB {α:Type} {step:α->Option (Ex×α)} {x:α} {r:Ex×α}:Ei step x=some r ↔ ∃ n,LoopN step n x r:=by
 unfold Ei
 constructor
 ·intro h
  split at h
  ·rename_i hh
   cases h
   exact hh.choose_spec
  ·cases h
 ·rintro ⟨n,h⟩
  rw[dif_pos ⟨r,n,h⟩]
  have hh:∃ r n,LoopN step n x r:=⟨r,n,h⟩
  obtain ⟨m,hm⟩:=hh.choose_spec
  exact congrArg some (hm.det h)
theorem TQ {α:Type} (step:α->Option (Ex×α)) (x:α):Ei step x=match step x with
 |some (.normal,y)=>Ei step y
 |r=>r:=by
 cases hs:step x with
 |none=>
  simp only
  cases h:Ei step x with
  |none=>rfl
  |some r=>
   obtain ⟨n,hn⟩:=FB.1 h
   cases hn with
   |done h2 _=>rw[hs] at h2;cases h2
   |more h2 _=>rw[hs] at h2;cases h2
 |some r=>
  obtain ⟨ex,y⟩:=r
  cases ex with
  |normal=>
   simp only
   cases h:Ei step y with
   |none=>
    cases h':Ei step x with
    |none=>rfl
    |some r=>
     obtain ⟨n,hn⟩:=FB.1 h'
     cases hn with
     |done h2 hx=>rw[hs] at h2;cases h2;exact absurd rfl hx
     |more h2 hn=>rw[hs] at h2;cases h2;rw[FB.2 ⟨_,hn⟩] at h;cases h
   |some r=>
    obtain ⟨n,hn⟩:=FB.1 h
    exact FB.2 ⟨n+1,.more hs hn⟩
  |exit id=>exact FB.2 ⟨0,.done hs (by simp)⟩
  |ret=>exact FB.2 ⟨0,.done hs (by simp)⟩
noncomputable def Kf {α:Type} (step:α->Option (Ex×α)):Nat->α->Option (Ex×α)
 |0,x=>Ei step x
 |n+1,x=>match step x with
  |some (.normal,y)=>Kf step n y
  |r=>r
theorem Xs {α:Type} (step:α->Option (Ex×α)) (n:Nat):∀ x,Kf step n x=Ei step x:=by
 induction n with
 |zero=>intro x;rfl
 |succ n ih=>
  intro x
  rw[TQ,Kf]
  split
  ·exact ih _
  ·rfl
@[irreducible] noncomputable def Am {α : Type} (step : α → Option (Ex × α)) (x : α) : Option (Ex × α) := Kf step 1000000 x
theorem Nf {α:Type} (step:α->Option (Ex×α)) (x:α):Am step x=Ei step x:=by unfold Am;exact Xs step _ x
theorem Nu {α:Type} {step:α->Option (Ex×α)} {x:α} {r:Ex×α}:Am step x=some r ↔ ∃ n,LoopN step n x r:=by rw[Nf];exact FB
theorem KA {α:Type} (step:α->Option (Ex×α)) (x:α):Am step x=match step x with
 |some (.normal,y)=>Am step y
 |r=>r:=by
 rw[Nf,TQ]
 split
 ·exact (Nf step _).symm
 ·rfl
end Go.AM
end
section
namespace Go.AM
open Go.RowKit (Below)
theorem GC:∀ (ts:List Nat) (azs l:List AV),(GW ts azs l).length=l.length
 |[],_,_=>rfl
 |_::_,[],_=>rfl
 |t::ts,a::azs,l=>by simp only[GW];rw[GC,List.length_set]
theorem JL:∀ (ts:List Nat) (azs l:List AV) (t:Nat) (y:AV),(GW ts azs l)[t]?=some y->l[t]?=some y\/∃ i:Nat,ts[i]?=some t/\azs[i]?=some y
 |[],_,_,_,_,h=>.inl h
 |_::_,[],_,_,_,h=>.inl h
 |s::ts,a::azs,l,t,y,h=>by
  simp only[GW] at h
  rcases JL ts azs _ t y h with h | ⟨i,h1,h2⟩
  ·by_cases e:s=t
   ·subst e
    rw[List.getElem?_set] at h
    simp only[if_true] at h
    split at h
    ·cases h;exact .inr ⟨0,rfl,rfl⟩
    ·cases h
   ·rw[List.getElem?_set_ne e] at h;exact .inl h
  ·exact .inr ⟨i+1,by simpa using h1,by simpa using h2⟩
section
variable {V:Env} {Γ:Base} {ro:Option Nat}
theorem Mc {a:Act} {w:World} {β:Nat->Option Place} {st:St} (hs:SimB Γ st a w β) (slots:List Nat):RelL (Ag w) (Γ.after w β st.heap) β (slots.map fun t=>st.tmps.getD t .any) (slots.map fun t=>a.eval (.tmp t)):=by
 have:=Ep hs (slots.map Operand.tmp)
 simpa [St.ev,Function.comp_def] using this
theorem IF {a:Act} {t:Nat} (h:t < a.tmps.size):a.tmps[t]?=some (a.eval (.tmp t)):=by
 simp[Act.eval,Array.getD_eq_getD_getElem?,h]
theorem QJ {A:Ann} {st:St} {x:Au A.ps} (hd:C' A st=some x) {a:Act} {w:World} {β:Nat->Option Place} (hs:SimB Γ st a w β):∃ β',SimB Γ (encSt A x) a w β'/\∀ B,Γ.after w β st.heap B->Γ.after w β' (encSt A x).heap B:=by
 unfold C' at hd
 split at hd
 case h_2=>cases hd
 rename_i x' s t m hx
 split at hd
 case isFalse=>cases hd
 rename_i hc
 cases hd
 obtain ⟨hn,hc⟩:=hc
 simp only[qY0,decide_eq_true_eq] at hc
 obtain ⟨⟨⟨hnd,hdj⟩,hog⟩,hwh⟩:=hc
 obtain ⟨zs,zt,D⟩:=DH hs.ctx [] A.ps _ _ x s t m (Mc hs A.slots) hx
 obtain ⟨hctx,hrel⟩:=Og hs D hnd hdj
 have hrZ:∀ z∈zs++zt,CD β st.heap z:=fun z hz=>(List.mem_append.1 hz).elim (D.refs z) (D.reft z)
 have hids:AD (s++t)=AD ((zs++zt).map (·.1)):=by rw[List.map_append,<-D.s_eq,<-D.t_eq]
 have hlenZ:(AX A.ps x).length=(zs++zt).length:=by rw[Il,qZ6,D.lenK,D.lenN]
 have hI:∀ B,Bx (Γ.after w β st.heap) β m B->Γ.after w (Bk (zs++zt)) (AX A.ps x) B:=by
  intro B hB
  refine ⟨(hctx.imm B hB).1,?_,(hctx.imm B hB).2⟩
  rcases hB with hB | ⟨b,hb,p,hp,hk,rfl⟩
  ·exact hB.2.1
  ·obtain ⟨r,hr⟩:=D.alive b hb
   rcases hs.own b r p hr hp hk with h' | h'
   ·exact .inr (.inr h')
   ·exact .inr (.inl h')
 have hm:Mono (Ag w) (Bx (Γ.after w β st.heap) β m) (Ag w) (Γ.after w (Bk (zs++zt)) (AX A.ps x)):=⟨hI,fun _ _ _ _ h=>h⟩
 refine ⟨Bk (zs++zt),⟨⟨fun i r hr=>?_,hctx.apart,fun B hB=>⟨hB.1,hB.2.2⟩,hctx.dom⟩,hs.frm,?_,fun t y hy=>?_,hs.defers,fun j i hj=>?_,hs.gbw,hs.low,fun i r q hr hq hk=>?_⟩,fun B hB=>hI B (.inl hB)⟩
 ·obtain ⟨p,hp,h1,h2⟩:=hctx.rows i r hr
  exact ⟨p,hp,h1,DW hm (fun _ _ h=>h) (fun _=>rfl) r h2⟩
 ·simp only[encSt,GC,List.length_replicate];rw[<-hn];exact hs.len
 ·have ht:t < A.n:=by
   have:=(List.getElem?_eq_some_iff.1 hy).1
   simpa [encSt,GC] using this
  have hta:t < a.tmps.size:=by rw[<-hs.len,hn];exact ht
  refine ⟨_,IF hta,?_⟩
  rcases JL _ _ _ t y hy with h | ⟨i,h1,h2⟩
  ·simp only[List.getElem?_replicate,ht,if_true,Option.some.injEq] at h
   subst h;simp[RelV]
  ·obtain ⟨v,hv,hr⟩:=Dl _ _ hrel i y h2
   simp only[List.getElem?_map,h1,Option.map_some,Option.some.injEq] at hv
   subst hv
   exact CS hm (fun _ _ h=>h) _ _ hr
 ·have hj':st.orig[j]?=some ((AD (s++t)).getD i st.heap.length):=by
   rw[hog,List.getElem?_map]
   have:A.og[j]?=some i:=hj
   rw[this];rfl
  obtain ⟨o1,o2,o3⟩:=hs.orig j _ hj'
  cases hid:(AD (s++t))[i]? with
  |none=>rw[qZ4,hid] at o2;simp at o2
  |some b=>
   rw[qZ4,hid] at o1 o2 o3
   simp only[Option.getD_some] at o1 o2 o3
   rw[hids,Lg _ hrZ] at hid
   obtain ⟨z,hz,hzb⟩:=Option.bind_eq_some_iff.1 hid
   obtain ⟨b',p,r0,c1,c2,c3,c4,c5,c6,_⟩:=hrZ z (qY14 hz)
   rw[hzb] at c1;cases c1
   have hw:z.1.whole=true:=by
    have:=List.all_eq_true.1 hwh i (qY14 hj)
    rw[D.s_eq,D.t_eq,<-List.map_append,qZ4,List.getElem?_map,hz] at this
    exact this
   have hpz:Bk (zs++zt) i=some p:=by simp only[Bk,hz,Option.map_some];rw[c6 hw]
   refine ⟨by rw[hpz,<-c3];exact o1,?_,fun r' p' _ hp hk=>?_⟩
   ·have:=(List.getElem?_eq_some_iff.1 hz).1
    show i < (AX A.ps x).length
    omega
   ·rw[hpz] at hp;cases hp
    exact o3 r0 _ c2 c3 hk
 ·have hi:=(List.getElem?_eq_some_iff.1 hr).1
  obtain ⟨z,hz⟩:∃ z,(zs++zt)[i]?=some z:=⟨_,qZ5 (by have:i < (AX A.ps x).length:=hi;omega)⟩
  obtain ⟨b',p,r0,c1,c2,c3,c4,c5,_⟩:=hrZ z (qY14 hz)
  simp only[Bk,hz,Option.map_some,Option.some.injEq] at hq
  subst hq
  rw[c4]
  exact hs.own b' r0 p c2 c3 (c5 ▸ hk)
theorem EN {A:Ann} {st:St} {x:Au A.ps} (hd:C' A st=some x) {a:Act} {w:World} (hs:BC Γ st a w):BC Γ (encSt A x) a w:=by
 obtain ⟨β,hs⟩:=hs
 obtain ⟨β',h,_⟩:=QJ hd hs
 exact ⟨β',h⟩
theorem XE {a:Act} {t:Nat} {v:Value} (h:a.tmps[t]?=some v):a.put (some t) v=a:=by
 obtain ⟨tmps,d⟩:=a
 simp only[Act.put]
 congr 1
 apply Array.ext_getElem?
 intro i
 rw[Array.getElem?_setIfInBounds]
 split
 ·rename_i e;subst e
  simp only at h
  rw[h,if_pos (Array.getElem?_eq_some_iff.1 h).1]
 ·rfl
theorem AGt (A:Ann) {st:St} {a:Act} {w:World} {β:Nat->Option Place} (hs:SimB Γ st a w β):∃ β',SimB Γ (C1 A st) a w β'/\∀ B,Γ.after w β st.heap B->Γ.after w β' (C1 A st).heap B:=by
 obtain ⟨β',L,hr⟩:=FE A.ps _ _ hs (Mc hs A.slots)
 refine ⟨β',⟨L.sim.ctx,L.sim.frm,?_,fun t y hy=>?_,L.sim.defers,L.sim.orig,L.sim.gbw,L.sim.low,L.sim.own⟩,L.mono.imm⟩
 ·simp only[C1,GC];exact hs.len
 ·have ht:t < a.tmps.size:=by
   have:=(List.getElem?_eq_some_iff.1 hy).1
   simp only[C1,GC] at this
   rw[<-hs.len];exact this
  refine ⟨_,IF ht,?_⟩
  rcases JL _ _ _ t y hy with h | ⟨i,h1,h2⟩
  ·obtain ⟨v,hv,hrel⟩:=L.sim.tmps t y h
   rw[IF ht] at hv;cases hv
   exact hrel
  ·obtain ⟨v,hv,hrel⟩:=Dl _ _ hr i y h2
   simp only[List.getElem?_map,h1,Option.map_some,Option.some.injEq] at hv
   subst hv
   exact hrel
theorem EP (A:Ann) {st:St} {a:Act} {w:World} (hs:BC Γ st a w):BC Γ (C1 A st) a w:=by
 obtain ⟨β,hs⟩:=hs
 obtain ⟨β',h,_⟩:=AGt A hs
 exact ⟨β',h⟩
theorem ID:∀ (ts:List Nat) {st:St} {a:Act} {w:World},BC Γ st a w->BC Γ (EI ts st) a w
 |[],_,_,_,h=>h
 |t::ts,st,a,w,h=>by
  simp only[EI]
  split
  ·rename_i b ht
   split
   ·rename_i e l hb
    refine ID ts ?_
    obtain ⟨β,hs⟩:=h
    have htt:st.tmps[t]?=some (.vw b):=by
     rw[qZ4] at ht
     cases hh:st.tmps[t]? with
     |none=>rw[hh] at ht;cases ht
     |some y=>rw[hh] at ht;rw[<-ht];rfl
    obtain ⟨v,h1,h2⟩:=hs.tmps t _ htt
    obtain ⟨k1,k2⟩:=ML (H':=st.heap.set b none) hs List.length_set (fun b' r hr=>by
     rw[List.getElem?_set] at hr
     split at hr
     ·split at hr<;>simp at hr
     ·exact hr)
    obtain ⟨u1,u2,hu,hrel,hnil⟩:=FV hs.ctx (.sl e) [.vw b] [v] l [] [b] (by simp only[RelL];exact ⟨v,[],rfl,h2,rfl⟩) (by simp[decC,hb])
    simp only[RelL] at hnil;subst hnil
    simp only[qY4] at hu;subst hu
    have hm:Mono (Ag w) (Bx (Γ.after w β st.heap) β [b]) (Ag w) (Γ.after w β (st.heap.set b none)):=⟨fun B hB=>k2 B (by
     rcases hB with hB | ⟨b',hb',p,hp,hk,rfl⟩
     ·exact .inl hB
     ·simp only[qZ8] at hb'
      subst hb'
      refine .inr ⟨⟨b',_,p,hb,hp,hk,rfl⟩,?_⟩
      rintro ⟨b2,r2,p2,e1,e2,e3,e4⟩
      rw[List.getElem?_set] at e1
      split at e1
      ·split at e1<;>simp at e1
      ·rename_i hne
       exact hne (hs.ctx.apart b2 b' _ _ p2 p e1 hb e2 hp e3 hk e4).symm),fun _ _ _ _ h=>h⟩
    have:=k1.put (some t) (x:=.sl e false l) (v:=v) (by simp only[RelV];exact ⟨relC_mono hm _ _ _ hrel,by simp⟩)
    rw[XE h1] at this
    exact ⟨β,this⟩
   ·exact ID ts h
  ·exact ID ts h
noncomputable def Mm (A:Ann) (exs:List Ex) (step:Au A.ps->Option (Ex×Au A.ps)):LoopO:=⟨fun _ st K=>(C' A (C1 A st)).bind fun x=>(Am step x).bind fun r=>Jm r.1 exs fun e=>K e (EI A.fz (encSt A r.2))⟩
theorem Ml {ρ:Type} {x:Ex} {k:Ex->Option ρ} {z:ρ}:∀ {es:List Ex},Jm x es k=some z->k x=some z
 |[],h=>by cases h
 |e::es,h=>by
  simp only[Jm,Ex.same] at h
  by_cases hx:x=e
  ·simp only[hx,decide_true,cond_true] at h;rw[hx];exact h
  ·simp only[hx,decide_false,cond_false] at h;exact Ml h
theorem AFG {E:Tab} (hE:TabOK V E) (hg:Γ.gb=V.gb) (h0:V.G Γ.w) {A:Ann} {exs:List Ex} {step:Au A.ps->Option (Ex×Au A.ps)} {c:Code} (hl:∀ a∈BA c,∀ L,E.lp (Ck a)=some L->DP V Γ ro a fun ρ=>L.f ρ)
 (hstep:∀ x,run E c (encSt A x) (fun ex st'=>(C' A (C1 A st')).bind fun y=>some (ex,y))=step x):DP V Γ ro (.loop c) fun ρ=>(Mm A exs step).f ρ:=by
 intro ρ st K z h a w hs Q hQ
 simp only[Mm] at h
 obtain ⟨x,hx,h⟩:=Ae h
 obtain ⟨⟨ex,y⟩,hr,h⟩:=Ae h
 have h:=Ml h
 obtain ⟨n,hn⟩:=Nu.1 hr
 have body:=EY hE hg h0 c hl
 have key:∀ n x a w,BC Γ (encSt A x) a w->LoopN step n x (ex,y)->Code.roundsIn (FR ro) 0 V.P c Q (n+1) a w:=by
  intro n
  induction n with
  |zero=>
   intro x a w hs hn
   cases hn with
   |done h1 hne=>
    rw[<-hstep] at h1
    refine body _ _ _ _ h1 a w hs _ fun ex' st' a' w' hs' h'=>?_
    obtain ⟨y',hy,h'⟩:=Ae h'
    cases h'
    have:=hQ ex (EI A.fz (encSt A y)) a' w' (ID _ (EN hy (EP A hs'))) h
    cases ex with
    |normal=>exact absurd rfl hne
    |exit id=>exact this
    |ret=>exact this
  |succ n ih=>
   intro x a w hs hn
   cases hn with
   |more h1 hm=>
    rw[<-hstep] at h1
    refine body _ _ _ _ h1 a w hs _ fun ex' st' a' w' hs' h'=>?_
    obtain ⟨y',hy,h'⟩:=Ae h'
    cases h'
    exact ih _ a' w' (EN hy (EP A hs')) hm
 exact wpIn_loop_rounds _ (key n x a w (EN hx (EP A hs)) hn)
def NK {α β:Type} (step:α->Option (Ex×(α ⊕ β))) (s:α ⊕ β):Option (Ex×(α ⊕ β)):=Sum.elim step (fun _=>none) s
def Gj (A R:Ann) (ex:Ex) (st:St):Option (Ex×(Au A.ps ⊕ Au R.ps)):=cond (ex.same .ret) ((C' R (C1 R st)).bind fun y=>some (.ret,.inr y)) ((C' A (C1 A st)).bind fun y=>some (ex,.inl y))
noncomputable def M2 (A R:Ann) (exs:List Ex) (step:Au A.ps->Option (Ex×(Au A.ps ⊕ Au R.ps))):LoopO:=⟨fun _ st K=>(C' A (C1 A st)).bind fun x=>(Am (NK step) (.inl x)).bind fun r=>Sum.elim (fun y=>Jm r.1 exs fun e=>K e (EI A.fz (encSt A y))) (fun y=>K .ret (encSt R y)) r.2⟩
theorem AFx {E:Tab} (hE:TabOK V E) (hg:Γ.gb=V.gb) (h0:V.G Γ.w) {A R:Ann} {exs:List Ex} {step:Au A.ps->Option (Ex×(Au A.ps ⊕ Au R.ps))} {c:Code} (hl:∀ a∈BA c,∀ L,E.lp (Ck a)=some L->DP V Γ ro a fun ρ=>L.f ρ)
 (hstep:∀ x,run E c (encSt A x) (Gj A R)=step x):DP V Γ ro (.loop c) fun ρ=>(M2 A R exs step).f ρ:=by
 intro ρ st K z h a w hs Q hQ
 simp only[M2] at h
 obtain ⟨x,hx,h⟩:=Ae h
 obtain ⟨⟨ex,y⟩,hr,h⟩:=Ae h
 obtain ⟨n,hn⟩:=Nu.1 hr
 have body:=EY hE hg h0 c hl
 have key:∀ n x a w,BC Γ (encSt A x) a w->LoopN (NK step) n (.inl x) (ex,y)->Code.roundsIn (FR ro) 0 V.P c Q (n+1) a w:=by
  intro n
  induction n with
  |zero=>
   intro x a w hs hn
   cases hn with
   |done h1 hne=>
    have h1:step x=some (ex,y):=h1
    rw[<-hstep] at h1
    refine body _ _ _ _ h1 a w hs _ fun ex' st' a' w' hs' h'=>?_
    by_cases hret:ex'=.ret
    ·subst hret
     simp only[Gj,Ex.same,decide_true,cond_true] at h'
     obtain ⟨y',hy,h'⟩:=Ae h'
     cases h'
     exact hQ .ret (encSt R y') a' w' (EN hy (EP R hs')) h
    ·simp only[Gj,Ex.same,hret,decide_false,cond_false] at h'
     obtain ⟨y',hy,h'⟩:=Ae h'
     cases h'
     have h:=Ml (x:=ex) h
     have:=hQ ex (EI A.fz (encSt A y')) a' w' (ID _ (EN hy (EP A hs'))) h
     cases ex with
     |normal=>exact absurd rfl hne
     |exit id=>exact this
     |ret=>exact absurd rfl hret
  |succ n ih=>
   intro x a w hs hn
   cases hn with
   |more h1 hm=>
    rename_i y1
    have h1:step x=some (.normal,y1):=h1
    rw[<-hstep] at h1
    refine body _ _ _ _ h1 a w hs _ fun ex' st' a' w' hs' h'=>?_
    by_cases hret:ex'=.ret
    ·subst hret
     simp only[Gj,Ex.same,decide_true,cond_true] at h'
     obtain ⟨y',hy,h'⟩:=Ae h'
     cases h'
    ·simp only[Gj,Ex.same,hret,decide_false,cond_false] at h'
     obtain ⟨y',hy,h'⟩:=Ae h'
     cases h'
     exact ih _ a' w' (EN hy (EP A hs')) hm
 exact wpIn_loop_rounds _ (key n x a w (EN hx (EP A hs)) hn)
end
end Go.AM
end
section
namespace Go.AM
open Go.RowKit (Below)
def KM (E:Tab) (st:St):ResultVar->Option AV
 |.tmp t=>st.tmps[t]?
 |.cell a t=>match E.ti t,st.heap.at (st.tmps.getD a .any) with
  |some i,some (l,k)=>if st.heap.there (st.tmps.getD a .any) then GA i l k else none
  |_,_=>none
def Kw (E:Tab) (st:St):List ResultVar->Option (List AV)
 |[]=>some []
 |r::rs=>match KM E st r with
  |some a=>match Kw E st rs with
   |some l=>some (a::l)
   |none=>none
  |none=>none
def outA:List PK->List Nat->List AV
 |.box _::ps,b::og=>.ptr b 0 0::outA ps og
 |.row _::ps,b::og=>.vw b::outA ps og
 |.mp _::ps,b::og=>.mp b::outA ps og
 |.val _::ps,og=>outA ps og
 |.own _::ps,og=>outA ps og
 |.obj _::ps,og=>outA ps og
 |.view _::ps,og=>outA ps og
 |_,_=>[]
def Gw (E:Tab) (rs:List ResultVar) (ps rk:List PK) (st:St):Option (Au rk×BW ps):=
 match Kw E st rs with
 |some azs=>
  if st.orig.length=cntK ps then
   let L1:=lift (opsOf ps) (outA ps st.orig) st.heap
   let L2:=lift rk azs L1.2
   match AI L2.2 [] (opsOf ps) L1.1,AI L2.2 L1.1 rk L2.1 with
   |some (o,s1,t1,m1),some (y,s2,t2,m2)=>if Cj (AD ((s1++t1)++(s2++t2)))&&Ct (AD ((s1++t1)++(s2++t2))) (m1++m2)&&s1.all AV.whole then some (y,o) else none
   |_,_=>none
  else none
 |none=>none
def RN (n:Nat) (ps:List PK) (x:Au ps):St:=⟨AY ps x 0 (cntK ps)++List.replicate (n - ps.length) .undef,AX ps x,List.range (cntK ps)⟩
def L4 (E:Tab) (n:Nat) (rs:List ResultVar) (c:Code) (ps rk:List PK) (x:Au ps):Option (Au rk×BW ps):=
 run E c (RN n ps x) fun ex st=>match ex with
  |.exit _=>none
  |_=>Gw E rs ps rk st
theorem JZ:∀ (ps:List PK) (x:Au ps) (k j:Nat),(AY ps x k j).length=ps.length
 |[],_,_,_=>rfl
 |p::ps,x,k,j=>by cases p<;>simp[AY,JZ ps]
theorem SC {rd:Nat->Nat->Option Value} {I:Nat->Prop} {β:Nat->Option Place}:∀ (ps:List PK) (x:Au ps) (k j:Nat) (vs:List Value),RelL rd I β (AY ps x k j) vs->∃ ws,∀ (rd':Nat->Nat->Option Value) (I':Nat->Prop) (β':Nat->Option Place) (og:List Nat),og.length=cntK ps->
 (∀ (i b:Nat),og[i]?=some b->β' b=β (k+i))->RelL rd' I' β' (outA ps og) ws
 |[],_,_,_,_,_=>⟨[],fun _ _ _ og _ _=>by cases og<;>simp[outA,RelL]⟩
 |p::ps,x,k,j,vs,h=>by
  cases p<;>simp only[AY,RelL] at h<;>obtain ⟨v,vs',rfl,h1,h2⟩:=h<;>obtain ⟨ws,hw⟩:=SC ps x.2 _ _ vs' h2
  case box f=>
   refine ⟨v::ws,fun rd' I' β' og hl hog=>?_⟩
   cases og with
   |nil=>simp[cntK] at hl
   |cons b og=>
    simp only[outA,RelL]
    refine ⟨v,ws,rfl,?_,hw rd' I' β' og (by simpa [cntK] using hl) fun i b' hb=>by rw[Nat.add_assoc,Nat.add_comm 1 i];exact hog (i+1) b' (by simpa using hb)⟩
    simp only[RelV] at h1 ⊢
    rw[hog 0 b rfl];exact h1
  case row e=>
   refine ⟨v::ws,fun rd' I' β' og hl hog=>?_⟩
   cases og with
   |nil=>simp[cntK] at hl
   |cons b og=>
    simp only[outA,RelL]
    refine ⟨v,ws,rfl,?_,hw rd' I' β' og (by simpa [cntK] using hl) fun i b' hb=>by rw[Nat.add_assoc,Nat.add_comm 1 i];exact hog (i+1) b' (by simpa using hb)⟩
    simp only[RelV] at h1 ⊢
    rw[hog 0 b rfl];exact h1
  case mp t=>
   refine ⟨v::ws,fun rd' I' β' og hl hog=>?_⟩
   cases og with
   |nil=>simp[cntK] at hl
   |cons b og=>
    simp only[outA,RelL]
    refine ⟨v,ws,rfl,?_,hw rd' I' β' og (by simpa [cntK] using hl) fun i b' hb=>by rw[Nat.add_assoc,Nat.add_comm 1 i];exact hog (i+1) b' (by simpa using hb)⟩
    simp only[RelV] at h1 ⊢
    rw[hog 0 b rfl];exact h1
  all_goals exact ⟨ws,fun rd' I' β' og hl hog=>by cases og<;>exact hw rd' I' β' _ (by simpa [cntK] using hl) hog⟩
theorem HH:∀ (ps:List PK) (og:List Nat),og.length=cntK ps->∀ (i:Nat) x,(outA ps og)[i]?=some x->∃ b,og[i]?=some b/\x.row=some b
 |[],og,_,i,x,h=>by cases og<;>simp[outA] at h
 |p::ps,og,hl,i,x,h=>by
  cases p
  case box f=>cases og with
   |nil=>simp[cntK] at hl
   |cons b og=>cases i with
    |zero=>simp[outA] at h;subst h;exact ⟨b,rfl,rfl⟩
    |succ i=>simpa using HH ps og (by simpa [cntK] using hl) i x (by simpa [outA] using h)
  case row f=>cases og with
   |nil=>simp[cntK] at hl
   |cons b og=>cases i with
    |zero=>simp[outA] at h;subst h;exact ⟨b,rfl,rfl⟩
    |succ i=>simpa using HH ps og (by simpa [cntK] using hl) i x (by simpa [outA] using h)
  case mp f=>cases og with
   |nil=>simp[cntK] at hl
   |cons b og=>cases i with
    |zero=>simp[outA] at h;subst h;exact ⟨b,rfl,rfl⟩
    |succ i=>simpa using HH ps og (by simpa [cntK] using hl) i x (by simpa [outA] using h)
  all_goals exact HH ps og (by simpa [cntK] using hl) i x (by cases og<;>exact h)
theorem ops_refs {H:Al} {V:List AV}:∀ (ps:List PK) (azs:List AV) (x:BW ps) (s t:List AV) (m:List Nat),AI H V (opsOf ps) azs=some (x,s,t,m)->s=azs
 |[],azs,x,s,t,m,h=>by cases azs<;>simp[AI,opsOf] at h;exact h.1
 |p::ps,azs,x,s,t,m,h=>by
  cases p
  case box f=>
   cases azs with
   |nil=>simp[opsOf,AI] at h
   |cons a azs=>
    cases a<;>(try simp[opsOf,AI] at h;done)
    rename_i b i k
    cases i with
    |succ i=>simp[opsOf,AI] at h
    |zero=>cases k with
     |succ k=>simp[opsOf,AI] at h
     |zero=>
      simp only[opsOf,AI] at h
      split at h
      ·split at h
       ·split at h
        ·rename_i hr;cases h;rw[ops_refs ps azs _ _ _ _ hr]
        ·cases h
       ·cases h
      ·cases h
  case row e=>
   cases azs with
   |nil=>simp[opsOf,AI] at h
   |cons a azs=>
    simp only[opsOf,AI] at h
    split at h
    ·split at h
     ·rename_i hr;cases h;rw[ops_refs ps azs _ _ _ _ hr]
     ·cases h
    ·cases h
  case mp t0=>
   cases azs with
   |nil=>simp[opsOf,AI] at h
   |cons a azs=>
    cases a<;>(try simp[opsOf,AI] at h;done)
    simp only[opsOf,AI] at h
    split at h
    ·split at h
     ·split at h
      ·rename_i hr;cases h;rw[ops_refs ps azs _ _ _ _ hr]
      ·cases h
     ·cases h
    ·cases h
  all_goals exact ops_refs ps azs x s t m h
theorem Hp:∀ (ps:List PK) (og:List Nat) (H:Al),(lift (opsOf ps) (outA ps og) H).1=outA ps og
 |[],og,H=>by cases og<;>rfl
 |p::ps,og,H=>by
  cases p
  case box f=>cases og with
   |nil=>rfl
   |cons b og=>simp only[opsOf,outA,lift];rw[Hp ps og]
  case row e=>cases og with
   |nil=>rfl
   |cons b og=>simp only[opsOf,outA,lift,BM];rw[Hp ps og]
  case mp t=>cases og with
   |nil=>rfl
   |cons b og=>simp only[opsOf,outA,lift];rw[Hp ps og]
  all_goals exact (by cases og<;>exact Hp ps _ H)
section
variable {V:Env} {E:Tab}
def resS (tmps:Array Value):ResultVar->Sem Value
 |.tmp t=>pure (tmps.getD t undef)
 |.cell c t=>do loadVar t (<-asAddr (tmps.getD c undef))
theorem AGz (fn:Func) (tmps:Array Value):results fn tmps=(do let vs<-fn.results.mapM (resS tmps);pure (if h:vs.size=1 then vs[0] else .tuple vs)):=by
 unfold results
 congr 1
theorem Yd (hE:TabOK V E) {Γ:Base} {st:St} {a:Act} {w:World} {β:Nat->Option Place} (hs:SimB Γ st a w β) {r:ResultVar} {x:AV} (h:KM E st r=some x) :
 ∃ v,(resS a.tmps r).run V.P w=.ok v w/\RelV (Ag w) (Γ.after w β st.heap) β x v:=by
 cases r with
 |tmp t=>
  simp only[KM] at h
  obtain ⟨v,h1,h2⟩:=hs.tmps t x h
  refine ⟨v,?_,h2⟩
  simp[resS,Array.getD_eq_getD_getElem?,h1]
 |cell c t=>
  simp only[KM] at h
  split at h
  ·rename_i i l k ht hat
   split at h
   ·rename_i hth
    obtain ⟨B,o',us,hv,hl,hrd,hrel,hpl⟩:=PN hs (Ax hs (.tmp c)) hat hth
    obtain ⟨v,hv',_,hsh⟩:=NE (hE.ti _ _ ht) h hrel hpl
    refine ⟨v,?_,hv'⟩
    have hv0:a.tmps.getD c undef=.pointer (some ⟨B,o'+k,none⟩):=hv
    unfold resS
    simp only[hv0]
    have hsz:=(hE.ti _ _ ht)
    unfold loadVar
    simp only[asAddr,pure_bind,Sem.run_bind,hsz.run_agg,Result.andThen_ok]
    split at hsh
    ·rename_i ha
     obtain ⟨hle,rfl⟩:=hsh
     rw[if_pos ha]
     simp only[Sem.run_bind,hsz.run_size,Result.andThen_ok]
     have hlen:((us.drop k).take i.size).length=i.size:=by simp;omega
     rw[show i.size=((us.drop k).take i.size).length from hlen.symm,run_loadCells_list w ⟨B,o'+k,none⟩ ((us.drop k).take i.size) fun j u hu=>?_]
     ·simp
     ·rw[add_plain]
      rw[List.getElem?_take] at hu
      split at hu
      ·rw[List.getElem?_drop] at hu
       have hkj:k+j < us.length:=(List.getElem?_eq_some_iff.1 hu).1
       have:=hrd (k+j) (by omega)
       rw[hu] at this
       rw[Nat.add_assoc]
       exact GE this (hpl _ (qY14 hu))
      ·cases hu
    ·rename_i ha
     rw[if_neg ha]
     have hk:k < us.length:=(List.getElem?_eq_some_iff.1 hsh).1
     have:=hrd k (by omega)
     rw[hsh] at this
     have:=GE this (hpl _ (qY14 hsh))
     simp[this]
   ·cases h
  ·cases h
theorem Tj (hE:TabOK V E) {Γ:Base} {st:St} {a:Act} {w:World} {β:Nat->Option Place} (hs:SimB Γ st a w β):∀ (rs:List ResultVar) (azs:List AV),Kw E st rs=some azs->
 ∃ vs:List Value,(rs.mapM (m:=Sem) (resS a.tmps)).run V.P w=.ok vs w/\RelL (Ag w) (Γ.after w β st.heap) β azs vs
 |[],azs,h=>by cases h;exact ⟨[],rfl,by simp[RelL]⟩
 |r::rs,azs,h=>by
  simp only[Kw] at h
  split at h
  ·rename_i x hx
   split at h
   ·rename_i l hl
    cases h
    obtain ⟨v,h1,h2⟩:=Yd hE hs hx
    obtain ⟨vs,h3,h4⟩:=Tj hE hs rs l hl
    refine ⟨v::vs,?_,by simp only[RelL];exact ⟨v,vs,rfl,h2,h4⟩⟩
    rw[List.mapM_cons]
    simp only[Sem.run_bind,h1,Result.andThen_ok,h3,Sem.run_pure]
   ·cases h
  ·cases h
theorem AEf {fn:Func} {a:Act} {w:World} {vs:List Value} (h:(fn.results.toList.mapM (m:=Sem) (resS a.tmps)).run V.P w=.ok vs w):(results fn a.tmps).run V.P w=.ok (EL vs) w:=by
 rw[AGz,Sem.run_bind,Array.mapM_eq_mapM_toList,Sem.run_map,h]
 cases vs with
 |nil=>rfl
 |cons v vs=>cases vs<;>rfl
theorem AE0 {w:World} {r:Nat} {o:Obj} (hr:w.heap[r]?=some o) (h:∀ cs ty fr,o≠.cells cs ty fr) (h':∀ es c,o≠.map es c) (i:Nat):Ag w r i=none:=by
 unfold Ag World.cell?
 rw[hr]
 cases o<;>simp at h h' ⊢
theorem K_ {Γ:Base} {st:St} {a:Act} {w w':World} {β:Nat->Option Place} (h:SimB Γ st a w β) {r:Nat} (hr:∀ o,w.heap[r]?=some o->(∀ cs ty fr,o≠.cells cs ty fr)/\∀ es c,o≠.map es c) (hΓ:Γ.w.heap.size<=r)
 (h1:w'.os=w.os) (h2:w'.tape=w.tape) (h3:w'.output=w.output) (h4:w.heap.size<=w'.heap.size) (h5:∀ B,B < w.heap.size->B≠r->w'.heap[B]?=w.heap[B]?) {ds:List Deferred} (hds:IV Γ w' ds):SimB Γ st { a with defers:=ds } w' β:=by
 have hl:∀ B,AR st.heap β B->B < w.heap.size/\B≠r:=by
  rintro B ⟨b,r0,p,hb,hp,hk,rfl⟩
  obtain ⟨q,hq,hg,hrow⟩:=h.ctx.rows b r0 hb
  rw[hp] at hq;cases hq
  refine ⟨(hg hk).2,fun e=>?_⟩
  obtain ⟨o,ho⟩:∃ o,w.heap[p.B]?=some o:=⟨_,Array.getElem?_eq_getElem (hg hk).2⟩
  obtain ⟨n1,n2⟩:=hr o (e ▸ ho)
  cases r0 with
  |typed e l=>obtain ⟨_,_,_,h⟩:=hrow;obtain ⟨cs,ty,h,_⟩:=h hk;rw[h] at ho;cases ho;exact n1 _ _ _ rfl
  |cells l=>obtain ⟨_,_,_,cs,ty,h,_⟩:=hrow;rw[h] at ho;cases ho;exact n1 _ _ _ rfl
  |mapr t l=>obtain ⟨_,es,c,h,_⟩:=hrow;rw[h] at ho;cases ho;exact n2 _ _ rfl
 have hm:Mono (Ag w) (Γ.after w β st.heap) (Ag w') (Γ.after w' β st.heap):=by
  refine ⟨fun B hB=>⟨Nat.lt_of_lt_of_le hB.1 h4,hB.2.1,hB.2.2⟩,fun B hB o v hv=>?_⟩
  by_cases e:B=r
  ·subst e
   obtain ⟨x,hx⟩:∃ x,w.heap[B]?=some x:=⟨_,Array.getElem?_eq_getElem hB.1⟩
   rw[AE0 hx (hr x hx).1 (hr x hx).2] at hv;cases hv
  ·rw[Px (h5 B hB.1 e)];exact hv
 have hrows:∀ (b:Nat) r0 p,st.heap[b]?=some (some r0)->β b=some p->p.backed=true->w'.heap[p.B]?=w.heap[p.B]?:=fun b r0 p hb hp hk=>by
  obtain ⟨e1,e2⟩:=hl p.B ⟨b,r0,p,hb,hp,hk,rfl⟩
  exact h5 _ e1 e2
 refine ⟨⟨fun b r0 hb=>?_,h.ctx.apart,fun B hB=>⟨hB.1,hB.2.2⟩,h.ctx.dom⟩,⟨h1.trans h.frm.os,h2.trans h.frm.tape,h3.trans h.frm.output,Nat.le_trans h.frm.size h4,fun B hB hn=>?_⟩,h.len,fun t x hx=>?_,hds,fun j b hb=>?_,h.gbw,h.low,h.own⟩
 ·obtain ⟨p,hp,hg,hr⟩:=h.ctx.rows b r0 hb
  exact ⟨p,hp,fun hk=>⟨(hg hk).1,Nat.lt_of_lt_of_le (hg hk).2 h4⟩,DW hm (fun _ _ h=>h) (hrows b r0 p hb hp) r0 hr⟩
 ·rw[h5 B (Nat.lt_of_lt_of_le hB h.frm.size) (by omega)];exact h.frm.block B hB hn
 ·obtain ⟨v,hv,hr⟩:=h.tmps t x hx
  exact ⟨v,hv,CS hm (fun _ _ h=>h) x v hr⟩
 ·obtain ⟨c1,c2,c3⟩:=h.orig j b hb
  exact ⟨c1,c2,fun r0 p hr0 hp hk=>(c3 r0 p hr0 hp hk).congr (hrows b r0 p hr0 hp hk)⟩
theorem Oc {gb:Nat} {w:World} {I:Nat->Prop} {β:Nat->Option Place} {H:Al} (hctx:Ctx gb w I β H) (hgb:gb<=w.heap.size) {tmps:List AV} {ts:Array Value} (hl:tmps.length=ts.size) (ht:∀ (t:Nat) x,tmps[t]?=some x->∃ v,ts[t]?=some v/\RelV (Ag w) I β x v) {K:Nat} (hK:K<=H.length) :
 SimB ⟨gb,w,I,β,H⟩ ⟨tmps,H,List.range K⟩ { tmps:=ts,defers:=[] } w β:=by
 have hm:Mono (Ag w) I (Ag w) (Base.after ⟨gb,w,I,β,H⟩ w β H):=⟨fun B hB=>⟨(hctx.imm B hB).1,.inl hB,(hctx.imm B hB).2⟩,fun _ _ _ _ h=>h⟩
 refine ⟨⟨fun i r hr=>?_,hctx.apart,fun B hB=>⟨hB.1,hB.2.2⟩,hctx.dom⟩,⟨rfl,rfl,rfl,Nat.le_refl _,fun _ _ _=>rfl⟩,hl,fun t z hz=>?_,⟨List.nodup_nil,by simp⟩,fun j b hj=>?_,hgb,fun B hB=>?_,fun b r p hb hp hk=>?_⟩
 ·obtain ⟨p,hp,h1,h2⟩:=hctx.rows i r hr
  exact ⟨p,hp,h1,DW hm (fun _ _ h=>h) (fun _=>rfl) r h2⟩
 ·obtain ⟨v,hv,hr⟩:=ht t z hz
  exact ⟨v,hv,CS hm (fun _ _ h=>h) _ _ hr⟩
 ·obtain ⟨hlt,e⟩:=List.getElem?_eq_some_iff.1 hj
  simp only[List.length_range] at hlt
  rw[List.getElem_range] at e
  subst e
  refine ⟨rfl,by show j < H.length;omega,fun r p hr hp hk=>?_⟩
  obtain ⟨p',hp',_,hrr⟩:=hctx.rows j r hr
  rw[hp] at hp';cases hp'
  cases r with
  |typed e l=>
   obtain ⟨_,_,_,h4⟩:=hrr
   obtain ⟨cs,ty,g1,_⟩:=h4 hk
   exact .inr ⟨cs,cs,ty,g1,g1,rfl,fun _ _=>rfl⟩
  |cells l=>
   obtain ⟨_,_,_,cs,ty,g1,_⟩:=hrr
   exact .inr ⟨cs,cs,ty,g1,g1,rfl,fun _ _=>rfl⟩
  |mapr t l=>
   obtain ⟨_,es,c,g1,_⟩:=hrr
   exact .inl ⟨es,c,es,c,g1,g1⟩
 ·obtain ⟨b,r,p,hb,hp,hk,rfl⟩:=hB
  obtain ⟨p',hp',h1,_⟩:=hctx.rows b r hb
  have hp2:β b=some p:=hp
  rw[hp2] at hp';cases hp'
  exact (h1 hk).1
 ·exact .inr ⟨b,r,p,hb,hp,hk,rfl⟩
theorem NZ (hE:TabOK V E) {w:World} {I:Nat->Prop} {β:Nat->Option Place} {ps rk:List PK} {x:Au ps} {y:Au rk} {o:BW ps} {vs:Array Value} (hvs:RelL (Ag w) I β (AY ps x 0 (cntK ps)) vs.toList) {rs:List ResultVar} {st':St} {a':Act} {w':World} {β':Nat->Option Place}
 (hs':SimB ⟨V.gb,w,I,β,AX ps x⟩ st' a' w' β') (hfin:Gw E rs ps rk st'=some (y,o)) :
 ∃ (us:List Value) (I':Nat->Prop) (β1:Nat->Option Place),(rs.mapM (m:=Sem) (resS a'.tmps)).run V.P w'=.ok us w'/\FrmC w w' (AR (AX ps x) β)/\OutOK w w' V.gb I β (AX ps x) (CO ps rk o y) (cntK ps) I' β1/\RelL (Ag w') I' β1 (E2 ps rk y) us:=by
 let Γ:Base:=⟨V.gb,w,I,β,AX ps x⟩
 have hs':SimB Γ st' a' w' β':=hs'
 unfold Gw at hfin
 split at hfin
 case h_2=>cases hfin
 rename_i azs has
 obtain ⟨rvs,hrun,hrel⟩:=Tj hE hs' _ _ has
 split at hfin
 case isFalse=>cases hfin
 rename_i hog
 simp only[Hp] at hfin
 obtain ⟨ws,hws⟩:=SC ps x 0 (cntK ps) vs.toList hvs
 have hou:RelL (Ag w') (Γ.after w' β' st'.heap) β' (outA ps st'.orig) ws:=hws _ _ β' st'.orig hog fun i b hb=>by
  rw[(hs'.orig i b hb).1,Nat.zero_add]
 obtain ⟨βa,La,ha⟩:=FE (opsOf ps) _ _ hs' hou
 obtain ⟨H1,eH1⟩:∃ H1,H1=(lift (opsOf ps) (outA ps st'.orig) st'.heap).2:=⟨_,rfl⟩
 rw[Hp] at ha
 rw[<-eH1] at La ha hfin
 obtain ⟨βb,Lb,hb'⟩:=FE rk _ _ La.sim (relL_mono La.mono La.sub _ _ hrel)
 have ha:=relL_mono Lb.mono Lb.sub _ _ ha
 obtain ⟨H2,eH2⟩:∃ H2,H2=(lift rk azs H1).2:=⟨_,rfl⟩
 simp only[<-eH2] at Lb ha hb' hfin
 have hs2:=Lb.sim
 split at hfin
 case h_2=>cases hfin
 rename_i o' s1 t1 m1 y' s2 t2 m2 hd1 hd2
 split at hfin
 case isFalse=>cases hfin
 rename_i hc
 cases hfin
 simp only[qY0] at hc
 obtain ⟨⟨hnd,hdj⟩,hwh⟩:=hc
 obtain ⟨zs1,zt1,D1⟩:=DH hs2.ctx [] (opsOf ps) _ _ o s1 t1 m1 ha hd1
 obtain ⟨zs2,zt2,D2⟩:=DH hs2.ctx _ rk _ _ y s2 t2 m2 hb' hd2
 have es1:=ops_refs ps _ _ _ _ _ hd1
 obtain ⟨Z,hZ⟩:∃ Z,Z=(zs1++zt1)++(zs2++zt2):=⟨_,rfl⟩
 have hids:AD (Z.map (·.1))=AD ((s1++t1)++(s2++t2)):=by rw[hZ];simp only[List.map_append];rw[<-D1.s_eq,<-D1.t_eq,<-D2.s_eq,<-D2.t_eq]
 have hrZ:∀ z∈Z,CD βb H2 z:=fun z hz=>by
  rw[hZ] at hz
  exact (List.mem_append.1 hz).elim (fun h=>(List.mem_append.1 h).elim (D1.refs z) (D1.reft z)) fun h=>(List.mem_append.1 h).elim (D2.refs z) (D2.reft z)
 have hl1:zs1.length=cntK ps:=by rw[D1.lenK,Jt]
 have hl2:(zs1++zt1).length=D6 ps:=by rw[qZ6,hl1,D1.lenN];rfl
 have hkeep:∀ i,i < cntK ps->∃ z b p r0,zs1[i]?=some z/\st'.orig[i]?=some b/\H2[b]?=some (some r0)/\βb b=some p/\z.2.1=p/\z.1.row=some b/\(outA ps st'.orig)[i]?=some z.1:=by
  intro i hi
  have hz:zs1[i]?=some zs1[i]:=qZ5 (by omega)
  obtain ⟨b,p,r0,c1,c2,c3,c4,c5,c6,_⟩:=D1.refs _ (qY14 hz)
  have hz1:s1[i]?=some zs1[i].1:=by rw[D1.s_eq,List.getElem?_map,hz];rfl
  have hw:zs1[i].1.whole=true:=List.all_eq_true.1 hwh _ (qY14 hz1)
  rw[es1] at hz1
  obtain ⟨b',d1,d2⟩:=HH ps _ hog i _ hz1
  rw[c1] at d2;cases d2
  exact ⟨_,b,p,r0,hz,d1,c2,c3,c6 hw,c1,hz1⟩
 let I':=Bx (Γ.after w' βb H2) βb (m1++m2)
 have hmI:∀ (ma:List Nat),(∀ b∈ma,b∈m1++m2)->Mono (Ag w') (Bx (Γ.after w' βb H2) βb ma) (Ag w') I':=fun ma h=>withRows_mono _ _ h _
 obtain ⟨v1,v2,v3⟩:=D1.vals I' (Bk Z) 0 (cntK ps) (hmI m1 (fun b h=>List.mem_append.2 (.inl h))) (by rw[hZ,qZ1];exact HQ [] zs1 _) (by rw[hZ,qZ1,<-hl1];exact HQ zs1 zt1 _) (fun i b p h=>by simp at h)
 obtain ⟨u1,u2,u3⟩:=D2.vals I' (Bk Z) (D6 ps) (D6 ps+cntK rk) (hmI m2 (fun b h=>List.mem_append.2 (.inr h))) (by rw[hZ,<-hl2];exact HQ _ zs2 zt2) (by
  have:=HQ ((zs1++zt1)++zs2) zt2 []
  rw[qY4,qZ6,hl2,D2.lenK] at this
  rw[hZ,<-qZ1];exact this) (fun i b p h hp=>by
  have hi:i < cntK ps:=by
   obtain ⟨b',d1,_⟩:=HH ps _ hog i _ h
   rw[<-hog];exact (List.getElem?_eq_some_iff.1 d1).1
  obtain ⟨z,b',p',r0,e1,e2,e3,e4,e5,e6,e7⟩:=hkeep i hi
  rw[h] at e7
  rw[<-Option.some.inj e7] at e6
  cases e6
  rw[hp] at e4;cases e4
  rw[hZ,qZ1]
  simp only[Bk]
  rw[qY8 (by omega),e1,Option.map_some,e5])
 have hrows:=Gs (by rw[qZ6,FP,Jc,Jt,hl2];rfl) (Gs (by rw[FP,Jt,hl1]) v2 v3) (Gs (by rw[FP,D2.lenK]) u2 u3)
 rw[<-hZ] at hrows
 have hctx2:=P0 hs2 (Z:=Z) (m:=m1++m2) (rows:=CO ps rk o y) hrZ (by rw[hids];exact hnd) (by rw[hids];exact Me hdj) (fun b hb=>(List.mem_append.1 hb).elim (D1.alive b) (D2.alive b))
  (by rw[PM,hZ,qZ6,hl2,qZ6,D2.lenK,D2.lenN]) hrows
 refine ⟨rvs,I',Bk Z,hrun,⟨hs'.frm.os,hs'.frm.tape,hs'.frm.output,hs'.frm.size,hs'.frm.block⟩,⟨hctx2,fun B hB=>?_,fun i r q hi hq hk=>?_,fun i hi=>?_⟩,u1⟩
 ·rcases hB with hB | ⟨b,hb,p,hp,hk,rfl⟩
  ·exact hB.2.1
  ·obtain ⟨r,hr⟩:=(List.mem_append.1 hb).elim (D1.alive b) (D2.alive b)
   exact (hs2.own b r p hr hp hk).elim (fun h=>.inr (.inr h)) fun h=>.inr (.inl h)
 ·have hi':=(List.getElem?_eq_some_iff.1 hi).1
  obtain ⟨z,hz⟩:∃ z,Z[i]?=some z:=by
   cases hh:Z[i]? with
   |none=>simp[Bk,hh] at hq
   |some z=>exact ⟨z,rfl⟩
  obtain ⟨b,p,r0,c1,c2,c3,c4,c5,_⟩:=hrZ z (qY14 hz)
  simp only[Bk,hz,Option.map_some,Option.some.injEq] at hq
  subst hq
  rw[c4]
  exact (hs2.own b r0 p c2 c3 (c5 ▸ hk)).symm
 ·obtain ⟨z,b,p,r0,e1,e2,e3,e4,e5,e6,e7⟩:=hkeep i hi
  obtain ⟨c1,c2,c3⟩:=hs2.orig i b e2
  have hpz:Bk Z i=some p:=by
   rw[hZ,qZ1]
   simp only[Bk]
   rw[qY8 (by omega),e1,Option.map_some,e5]
  rw[e4] at c1
  exact ⟨hpz.trans c1,fun p' hp' hk=>by
   have:Γ.β i=some p':=hp'
   rw[<-c1] at this;cases this
   exact c3 r0 p e3 e4 hk⟩
theorem AAc (hE:TabOK V E) {k:FuncId} {fn:Func} {c:Code} (hf:V.P.funcs[k]?=some fn) (hb:fn.body=some c) {ps rk:List PK} (hn:ps.length<=fn.ntmps)
 (hl:∀ Γ:Base,Γ.gb=V.gb->V.G Γ.w->∀ a∈BA c,∀ L,E.lp (Ck a)=some L->DP V Γ none a fun ρ=>L.f ρ)
 {x:Au ps} {y:Au rk} {o:BW ps} (h:L4 E fn.ntmps fn.results.toList c ps rk x=some (y,o)):PD V k ps rk x y o:=by
 intro w I β vs hG hgb hctx hvs
 have hvl:=CP _ _ hvs
 rw[JZ] at hvl
 have hvl':vs.size=ps.length:=by rw[<-Array.length_toList];exact hvl
 have hsim:SimB ⟨V.gb,w,I,β,AX ps x⟩ (RN fn.ntmps ps x) { tmps:=vs++Array.replicate (fn.ntmps - vs.size) undef,defers:=[] } w β:=
  Oc hctx hgb (by simp[JZ,hvl']) (fun t z hz=>by
   rw[List.getElem?_append] at hz
   split at hz
   ·rename_i hlt
    obtain ⟨v,hv,hr⟩:=Dl _ _ hvs t z hz
    refine ⟨v,?_,hr⟩
    rw[JZ] at hlt
    rw[Array.getElem?_append_left (by omega),<-Array.getElem?_toList];exact hv
   ·rename_i hge
    rw[JZ] at hge hz
    simp only[List.getElem?_replicate] at hz
    split at hz
    ·cases hz
     refine ⟨undef,?_,by simp[RelV]⟩
     rw[Array.getElem?_append_right (by omega),Array.getElem?_replicate,if_pos (by omega)]
    ·cases hz) (by rw[Il];omega)
 refine (callsIn_wide (n:=0)).1 (callsIn_of_wp_marks hf hb trivial (EY (Γ:=⟨V.gb,w,I,β,AX ps x⟩) (ro:=none) hE rfl hG c (hl _ rfl hG) _ _ _ _ h _ w ⟨β,hsim⟩ _ fun ex st' a' w' hs' h'=>?_))
 have hfin:Gw E fn.results.toList ps rk st'=some (y,o)/\((ex.toExit=.normal)\/ex.toExit=.ret):=by
  cases ex with
  |normal=>exact ⟨h',.inl rfl⟩
  |exit id=>cases h'
  |ret=>exact ⟨h',.inr rfl⟩
 obtain ⟨hfin,hex⟩:=hfin
 obtain ⟨β',hs'⟩:=hs'
 have main:∀ (ds:List Deferred) (w':World),SimB ⟨V.gb,w,I,β,AX ps x⟩ st' { tmps:=a'.tmps,defers:=ds } w' β'->
  LeavesInM Fence.wide 0 V.P fn a'.tmps (fun e w'=>∃ (us:List Value) (I':Nat->Prop) (β':Nat->Option Place),e=.returned (EL us)/\FrmC w w' (AR (AX ps x) β)/\OutOK w w' V.gb I β (AX ps x) (CO ps rk o y) (cntK ps) I' β'/\RelL (Ag w') I' β' (E2 ps rk y) us) ds .returning w':=by
  intro ds
  induction ds with
  |nil=>
   intro w' hs'
   obtain ⟨us,I',β1,g1,g2,g3,g4⟩:=NZ hE hvs hs' hfin
   exact ⟨_,AEf g1,us,I',β1,rfl,g2,g3,g4⟩
  |cons d ds ih=>
   intro w' hs'
   refine ⟨by simp,.inl ?_⟩
   obtain ⟨hnd,hD⟩:=hs'.defers
   simp only at hnd hD
   obtain ⟨D,rfl,hge,hobj⟩:=hD d (by simp)
   refine ⟨D,w'.putObj D (.deferred none),rfl,run_takeDeferred hobj,ih _ (K_ (w':=w'.putObj D (.deferred none)) hs' (r:=D) (fun o ho=>by rw[hobj] at ho;cases ho;exact ⟨by simp,by simp⟩) hge rfl rfl rfl (by simp) (fun B _ hne=>World.putObj_heap_other hne) ⟨(List.nodup_cons.1 hnd).2,fun d' hd'=>?_⟩)⟩
   obtain ⟨D',e1,e2,e3⟩:=hD d' (by simp[hd'])
   refine ⟨D',e1,e2,?_⟩
   have hne:D'≠D:=fun e=>(List.nodup_cons.1 hnd).1 (by subst e;rw[<-e1];exact hd')
   rw[World.putObj_heap_other hne];exact e3
 rcases hex with hex | hex<;>rw[hex]<;>exact main _ _ hs'
end
end Go.AM
end
section
namespace Go.AM
def sl:Code->Code
 |.seq a _=>a
 |c=>c
def sr:Code->Code
 |.seq _ b=>b
 |c=>c
def bb:Code->Code
 |.block _ a=>a
 |c=>c
def lb:Code->Code
 |.loop a=>a
 |c=>c
def rb:Code->Code
 |.rangeFunc _ _ _ b=>b
 |c=>c
def fb (f:Func):Code:=f.body.getD .skip
theorem A9 {P:Program} {t:TypeId} {i:TI} {d:TypeDesc} {j:TypeInfo} (hu:P.underlying t=some d) (hj:P.types[t]?=some j) (h1:Dy d=i.d) (h2:j.size=i.size) (h3:j.bytes=i.bytes) (h4:∀ g,i.gt=some g->j.zero=some (CN g)/\g.cells=i.size/\g.isAgg=i.d.agg):TOk P t i:=by
 have hi:P.info? t=some j:=by
  show P.toTables.info? t=some j
  unfold Tables.info?
  rw[if_pos (Array.getElem?_eq_some_iff.1 hj).1];exact hj
 exact ⟨by rw[hu,<-h1];rfl,by rw[hi,<-h2,<-h3];rfl,fun g hg=>⟨by rw[hi,<-(h4 g hg).1];rfl,(h4 g hg).2⟩⟩
section
variable {V:Env} {Γ:Base} {E:Tab} {ro:Option Nat}
def Gf (P:Program) (l:List (Nat×TI)):Prop:=∀ t i,Ek l t=some i->TOk P t i
theorem AEU {P:Program}:Gf P []:=fun t i h=>by cases h
theorem A' {P:Program} {t:Nat} {i:TI} {l:List (Nat×TI)} (h:TOk P t i) (k:Gf P l):Gf P ((t,i)::l):=fun t' i' h'=>by
 simp only[Ek] at h'
 split at h'
 ·rename_i e;subst e;cases h';exact h
 ·exact k t' i' h'
def LD (V:Env) (l:List (Nat×Option Nat×Callee)):Prop:=∀ k azs c,KB l k azs=some c->Good V k c
theorem ADB:LD V []:=fun t i c h=>by cases h
theorem AG9 {k:Nat} {s:Option Nat} {c:Callee} {l:List (Nat×Option Nat×Callee)} (h:Good V k c) (r:LD V l):LD V ((k,s,c)::l):=fun k' azs c' h'=>by
 simp only[KB] at h'
 split at h'
 ·rename_i e;obtain ⟨rfl,_⟩:=e;cases h';exact h
 ·exact r k' azs c' h'
def AEi (V:Env) (Γ:Base) (ro:Option Nat) (E:Tab) (l:List Code):Prop:=∀ a∈l,∀ L,E.lp (Ck a)=some L->DP V Γ ro a fun ρ=>L.f ρ
def IM (P:Program) (l:List (Nat×Nat)):Prop:=∀ k kb,Ek l k=some kb->HJ P k kb
theorem AF {P:Program}:IM P []:=fun t i h=>by cases h
theorem Q8 {P:Program} {k kb:Nat} {l:List (Nat×Nat)} (h:HJ P k kb) (r:IM P l):IM P ((k,kb)::l):=fun k' c' h'=>by
 simp only[Ek] at h'
 split at h'
 ·rename_i e;subst e;cases h';exact h
 ·exact r k' c' h'
theorem D7 {k : FuncId} {C : Callee} (hen : ∃ fn, V.P.funcs[k]? = some fn ∧ (fn.name == "runtime.NumGoroutine") = false ∧ fn.body.isNone = false) (h : ∀ x, C.g x = none) : Good V k C := ⟨hen, fun x y o hx => by rw [h] at hx; cases hx⟩
theorem AB4 {k : FuncId} {fn : Func} {c : Code} {C : Callee} (hE : TabOK V E) (hf : V.P.funcs[k]? = some fn) (hb : fn.body = some c) (hname : (fn.name == "runtime.NumGoroutine") = false) (hn : C.ps.length ≤ fn.ntmps)
 (hl:∀ Γ:Base,Γ.gb=V.gb->V.G Γ.w->AEi V Γ none E (BA c)) (hr:∀ x,L4 E fn.ntmps fn.results.toList c C.ps C.rk x=C.g x):Good V k C:=
 ⟨⟨fn,hf,hname,by rw[hb];rfl⟩,fun x y o h=>AAc hE hf hb hn hl (by rw[hr];exact h)⟩
end
end Go.AM
end
section
namespace Go.AM
open Go.RowKit (Below)
def Fx (kd:IntKind) (p:Int×Nat):Array Value:=#[.int .i64 p.2,.int kd p.1]
def It (Bs:Nat) (b:Option Nat) (W W':World):Prop:=W.heap.size<=W'.heap.size/\W'.heap[Bs]?=W.heap[Bs]?/\∀ k,b=some k->W'.heap[k]?=W.heap[k]?
def Ka (P : Program) (kb : Nat) (kd : IntKind) : Prop := (∃ fn, P.funcs[kb]? = some fn ∧ (fn.name == "runtime.NumGoroutine") = false ∧ fn.body.isNone = false) ∧
 ∀ (Bs ob:Nat) (ad:Option Addr) (cap:Nat) (xs:List Int) (W:World) (l:Nat) (J:Nat->World->Prop),xs.length<=2 ^ 40->W.cell? ⟨Bs,ob,none⟩=some (.slice ad xs.length cap)->
 (xs≠[]->∃ b off,ad=some ⟨b,off,none⟩/\∀ (k:Nat) x,xs[k]?=some x->W.cell? ⟨b,off+k,none⟩=some (.int kd x))->
 (∀ (k:Nat) x W1,xs.zipIdx.reverse[k]?=some x->J k W1->YieldAt Fence.wide 0 P l (Fx kd x) W1 fun e W'=>e=.returned (.bool true)/\J (k+1) W'/\It Bs (ad.map (·.block)) W1 W')->J 0 W->
 CallsIn Fence.wide 0 P kb #[.func (.yield l) #[] #[],.pointer (some ⟨Bs,ob,none⟩)] W fun e W'=>(∃ v,e=.returned v)/\J xs.length W'
def foldO {α β:Type} (f:α->β->Option β):List α->β->Option β
 |[],y=>some y
 |x::l,y=>(f x y).bind (foldO f l)
theorem RU {α β:Type} {f:α->β->Option β}:∀ (k:Nat) (l:List α) (y z:β) (x:α),foldO f l y=some z->l[k]?=some x->∃ u v,foldO f (l.take k) y=some u/\f x u=some v/\foldO f (l.take (k+1)) y=some v
 |0,a::l,y,z,x,h,hx=>by
  simp at hx;subst hx
  obtain ⟨v,hv,_⟩:=Ae h
  exact ⟨y,v,rfl,hv,by simp[foldO,hv]⟩
 |k+1,a::l,y,z,x,h,hx=>by
  obtain ⟨v,hv,h'⟩:=Ae h
  obtain ⟨u,w,h1,h2,h3⟩:=RU k l v z x h' (by simpa using hx)
  exact ⟨u,w,by simp[foldO,hv,h1],h2,by simp only[List.take_succ_cons,foldO,hv,Option.bind_some];exact h3⟩
def Tn (A:Ann) (t1 t2 s d:Nat) (kd:IntKind) (v:Int) (i:Nat) (y:Au A.ps):St:=
 let l:=((encSt A y).tmps.set t1 (.int .i64 i)).set t2 (.int kd v)
 ⟨l.set d (l.getD s .any),AX A.ps y,List.range (cntK A.ps)⟩
def Of (E:Tab) (A:Ann) (t1 t2 s d:Nat) (kd:IntKind) (body:Code) (v:Int) (i:Nat) (y:Au A.ps):Option (BW A.ps):=
 run E body (Tn A t1 t2 s d kd v i y) fun ex st=>match ex with
  |.normal=>(Gw E [] A.ps [] st).bind fun r=>some r.2
  |_=>none
def Oe (A:Ann) (y:Au A.ps) (o:BW A.ps):Option (Au A.ps):=
 DT (AX A.ps y) ⟨A.ps,[],fun _=>some ((),o)⟩ (AY A.ps y 0 (cntK A.ps)) fun _ H=>C' A { encSt A y with heap:=H }
def Jg (A:Ann) (kb:Nat) (kd:IntKind) (g:Operand) (step:Int->Nat->Au A.ps->Option (Au A.ps)) (outs:Au A.ps->BW A.ps):LoopO:=
 ⟨fun _ st K=>match st.ev g with
  |.fn k [.ptr nb 0 0]=>if k=kb then match st.heap[nb]? with
   |some (some (.cells [x]))=>match decC st.heap (.sl (.int kd)) [x] with
    |some (xs,[],mx)=>match AI (lift A.ps (A.slots.map fun t=>st.tmps.getD t .any) st.heap).2 [] A.ps (lift A.ps (A.slots.map fun t=>st.tmps.getD t .any) st.heap).1 with
     |some (_,s,t,_)=>if Ct (AD (s++t)) (nb::mx)=true/\st.tmps.length=A.n then
      Ab (decide ((xs:List Int).length<=As)) (DT st.heap ⟨A.ps,[],fun y=>(foldO (fun p y=>step p.1 p.2 y) (xs:List Int).zipIdx.reverse y).bind fun y'=>some ((),outs y')⟩ (A.slots.map fun t=>st.tmps.getD t .any) fun _ H=>K .normal { st with heap:=H })
      else none
     |none=>none
    |_=>none
   |_=>none
   else none
  |_=>none⟩
theorem UD {ρ:Type} {b:Bool} {x:Option ρ} {z:ρ} (h:Ab b x=some z):b=true/\x=some z:=by cases b<;>simp[Ab] at h ⊢;exact h
section
variable {V:Env} {Γ:Base} {ro:Option Nat}
theorem Wu {P:Program} {ro:Option Nat} {id s d:Nat} {o:Oper} (ho:o.op=.assign (.tmp s)) (hd:o.dst=some d) (hg:o.guard=none) {K:Act->World->Prop} {R:Exit->Act->World->Prop} {a:Act} {w:World} (h:K (a.put (some d) (a.eval (.tmp s))) w) :
 (Code.region id #[o] false).wpIn (FR ro) 0 P (Exit.then K R) a w:=by
 refine wpIn_region ?_
 have hw:Region.wanted o (yielded #[o] a.tmps)=true:=by unfold Region.wanted;rw[hg]
 have:List.range (#[o]:Array Oper).size=[0]:=rfl
 rw[this]
 simp only[wpOpsIn,List.getElem?_toArray,List.getElem?_cons_zero,hw,if_true]
 refine ⟨fun _ _=>trivial,?_⟩
 rw[Oper.semAt_eq _ _ _ (by rw[ho];simp)]
 have e:(execOp a.eval o).run P w=.ok (.value (a.eval (.tmp s))) w:=by simp[execOp,ho]
 rw[e,Oper.uponIn_value,hd]
 exact h
theorem NA {R:AV->Value->Prop} {l:List AV} {ts:Array Value} (h:∀ (t:Nat) x,l[t]?=some x->∃ v,ts[t]?=some v/\R x v) (hl:l.length=ts.size) {x:AV} {v:Value} (hr:R x v) (d:Nat):∀ (t:Nat) y,(l.set d x)[t]?=some y->∃ v',(ts.setIfInBounds d v)[t]?=some v'/\R y v':=by
 intro t y hy
 rw[List.getElem?_set] at hy
 rw[Array.getElem?_setIfInBounds]
 split at hy
 ·rename_i e;subst e
  split at hy
  ·rename_i hlt;cases hy
   rw[if_pos rfl,if_pos (by omega)]
   exact ⟨v,rfl,hr⟩
  ·cases hy
 ·rename_i e
  rw[if_neg e]
  exact h t y hy
theorem AFu {rd:Nat->Nat->Option Value} {I:Nat->Prop} {β:Nat->Option Place} {l:List AV} {ts:Array Value} (h:∀ (t:Nat) x,l[t]?=some x->∃ v,ts[t]?=some v/\RelV rd I β x v) (s:Nat):RelV rd I β (l.getD s .any) (ts.getD s undef):=by
 rw[qZ4]
 cases hs:l[s]? with
 |none=>simp[RelV]
 |some x=>
  obtain ⟨v,hv,hr⟩:=h s x hs
  rw[Array.getD_eq_getD_getElem?,hv]
  exact hr
theorem AEn {E:Tab} (hE:TabOK V E) (hg:Γ.gb=V.gb) (h0:V.G Γ.w) {A:Ann} {kb:Nat} {kd:IntKind} {g:Operand} {t1 t2 s d rid:Nat} {o:Oper} {body:Code} {round:Int->Nat->Au A.ps->Option (BW A.ps)} {merge:Au A.ps->BW A.ps->Au A.ps} {outs:Au A.ps->BW A.ps}
 (hback:Ka V.P kb kd) (ho:o.op=.assign (.tmp s)) (hd:o.dst=some d) (hgd:o.guard=none)
 (hl:∀ (l:Nat) (Γ':Base),Γ'.gb=V.gb->V.G Γ'.w->∀ a∈BA body,∀ L,E.lp (Ck a)=some L->DP V Γ' (some l) a fun ρ=>L.f ρ)
 (hround:∀ v i y,Of E A t1 t2 s d kd body v i y=round v i y) (hmerge:∀ y o,Oe A y o=some (merge y o))
 (hdec:∀ y,(AI (lift A.ps (AY A.ps y 0 (cntK A.ps)) (AX A.ps y)).2 [] A.ps (lift A.ps (AY A.ps y 0 (cntK A.ps)) (AX A.ps y)).1).bind (fun r=>some r.1)=some y)
 (hslot:∀ y,(A.slots.map fun t=>(encSt A y).tmps.getD t .any)=AY A.ps y 0 (cntK A.ps)) (hog:A.og=List.range (cntK A.ps)) (houts:∀ y,Gw E [] A.ps [] (encSt A y)=some ((),outs y)) :
 DP V Γ none (.rangeFunc g #[t1,t2] (.region rid #[o] false) body) fun ρ=>(Jg A kb kd g (fun v i y=>(round v i y).bind fun o=>some (merge y o)) outs).f ρ:=by
 have eg:∀ args w,(callFunc kb args).run V.P w=.ok (.enter kb args) w:=by
  obtain ⟨fn,h1,h2,h3⟩:=hback.1
  intro args w
  simp only[callFunc,Sem.run_bind,run_program,Result.andThen_ok,h1]
  simp only[h2,h3]
  simp[Sem.run_pure]
 intro ρ st K z h a w hs Q hQ
 obtain ⟨β,hs⟩:=hs
 simp only[Jg] at h
 split at h
 case h_2=>cases h
 rename_i k nb hgv
 split at h
 case isFalse=>cases h
 rename_i hk
 subst hk
 split at h
 case h_2=>cases h
 rename_i xv hnb
 split at h
 case h_2=>cases h
 rename_i xs mx hxs
 split at h
 case h_2=>cases h
 rename_i y0' s0 t0 m0 hd0
 split at h
 case isFalse=>cases h
 rename_i hdj
 obtain ⟨hdj,hlenst⟩:=hdj
 obtain ⟨hlen,h⟩:=UD h
 simp only[decide_eq_true_eq] at hlen
 have hgrel:=Ax hs g
 rw[hgv] at hgrel
 simp only[RelV,RelL] at hgrel
 obtain ⟨us,hgval,u,us',rfl,⟨pn,hpn,hpk,rfl⟩,rfl⟩:=hgrel
 obtain ⟨pn',hpn',hpnB,e1,e2,e3,cs,ty,g1,g2,ws,g3,g4,g5,g6⟩:=hs.ctx.rows nb _ hnb
 rw[hpn] at hpn';cases hpn'
 have hpnB:=hpnB hpk
 obtain ⟨x0,yu,ou0,hgx0,hdec0,v0,H0,hK0,hcore0⟩:=Nx (st:=st) hg h0 h
 obtain ⟨yN,hyN,hyo⟩:=Ae hgx0
 cases hyo
 obtain ⟨s1,t1',m1,hd1⟩:=hdec0
 have hd1':AI (lift A.ps (A.slots.map fun t=>st.tmps.getD t .any) st.heap).2 [] A.ps (lift A.ps (A.slots.map fun t=>st.tmps.getD t .any) st.heap).1=some (x0,s1,t1',m1):=hd1
 rw[hd0] at hd1'
 cases hd1'
 obtain ⟨I,βc,hG0,hgb0,hctx0,hrel0,hIsub0,hnl0,hend0⟩:=hcore0 a w β hs _ (Mc hs A.slots)
 have hnl:∀ b r p,st.heap[b]?=some (some r)->β b=some p->p.backed=true->b∈nb::mx->¬ AR (AX A.ps y0') βc p.B:=fun b r p hb hp hk hm=>hnl0 s0 t0 m0 hd0 b r p hb hp hk fun hmem=>by
  have:=List.all_eq_true.1 hdj b hmem
  simp at this
  rcases List.mem_cons.1 hm with h | h
  ·exact this.1 h
  ·exact this.2 h
 have hBnl:=hnl nb _ pn hnb hpn hpk List.mem_cons_self
 obtain ⟨B,hB⟩:∃ B,B=pn.B:=⟨_,rfl⟩
 obtain ⟨ob,hob⟩:∃ ob,ob=pn.O+0 * pn.s+0:=⟨_,rfl⟩
 rw[<-hB] at hgval hBnl
 rw[<-hob] at hgval
 have hBlt:B < w.heap.size:=by rw[hB];exact hpnB.2
 cases ws with
 |nil=>simp at g3
 |cons u0 ws'=>
 cases ws' with
 |cons _ _=>simp at g3
 |nil=>
 obtain ⟨u1,u2,hu12,hrc,hr2⟩:=FV hs.ctx (.sl (.int kd)) [xv] [u0] xs [] mx g5 hxs
 simp only[RelL] at hr2;subst hr2
 simp only[qY4] at hu12
 subst hu12
 simp only[RelC] at hrc
 obtain ⟨ad,cap,hu0,hcap,hel⟩:=hrc
 simp only[List.cons.injEq,and_true] at hu0
 subst hu0
 have hc0:w.cell? ⟨B,ob,none⟩=some (.slice ad (xs:List Int).length cap):=by
  have:=g4 0 (by simp)
  simp only[List.getElem?_cons_zero,Nat.add_zero] at this
  simp only[World.cell?,hB,hob,g1,Nat.zero_mul,Nat.add_zero]
  exact this
 have hcells:(xs:List Int)≠[]->∃ b off,ad=some ⟨b,off,none⟩/\b < w.heap.size/\¬ AR (AX A.ps y0') βc b/\∀ (k:Nat) x,(xs:List Int)[k]?=some x->w.cell? ⟨b,off+k,none⟩=some (.int kd x):=by
  intro hne
  obtain ⟨b,off,e,hb,hh⟩:=hel hne
  refine ⟨b,off,e,?_,?_,fun k x hk=>?_⟩
  ·rcases hb with hb | ⟨b',hb',p,hp,hk,rfl⟩
   ·exact hb.1
   ·obtain ⟨r,hr⟩:=decC_rows _ _ _ _ _ hxs b' hb'
    obtain ⟨p',hp',h1,_⟩:=hs.ctx.rows b' r hr;rw[hp] at hp';cases hp';exact (h1 hk).2
  ·rcases hb with hb | ⟨b',hb',p,hp,hk,rfl⟩
   ·exact fun hlv=>(hctx0.imm b (hIsub0 b hb)).2 hlv
   ·obtain ⟨r,hr⟩:=decC_rows _ _ _ _ _ hxs b' hb'
    exact hnl b' r p hr hp hk (qY13 _ hb')
  ·obtain ⟨us,h1,h2,h3⟩:=hh k x hk
   subst h3
   have:=h2 0 (by simp[GT.cells])
   simp only[GT.cells,Nat.mul_one,Nat.add_zero] at this
   exact GE this rfl
 obtain ⟨y0,hy0⟩:∃ y0,y0=y0':=⟨_,rfl⟩
 rw[<-hy0] at hBnl hcells hctx0 hrel0 hend0 hyN
 obtain ⟨Γc,hΓc⟩:∃ Γc:Base,Γc=⟨V.gb,w,I,βc,AX A.ps y0⟩:=⟨_,rfl⟩
 obtain ⟨aC,haC⟩:∃ aC:Act,aC={ tmps:=a.tmps,defers:=[] }:=⟨_,rfl⟩
 have hs2:SimB Γc (encSt A y0) aC w βc:=by
  rw[hΓc,haC]
  have:=Oc hctx0 hgb0 (tmps:=(encSt A y0).tmps) (ts:=a.tmps) (by simp only[encSt,GC,List.length_replicate];rw[<-hlenst,<-hs.len]) (fun t q hq=>?_) (K:=cntK A.ps) (by have:=Il A.ps y0;show cntK A.ps<=(AX A.ps y0).length;omega)
  ·rw[<-hog] at this;exact this
  ·have ht:t < a.tmps.size:=by
    have:=(List.getElem?_eq_some_iff.1 hq).1
    simp only[encSt,GC,List.length_replicate] at this
    rw[<-hs.len,hlenst];exact this
   refine ⟨_,IF ht,?_⟩
   rcases JL _ _ _ t q hq with hh | ⟨i,h1,h2⟩
   ·rw[List.getElem?_replicate] at hh
    split at hh
    ·cases hh;simp[RelV]
    ·cases hh
   ·obtain ⟨v,hv,hr⟩:=Dl _ _ hrel0 i q h2
    simp only[List.getElem?_map,h1,Option.map_some,Option.some.injEq] at hv
    subst hv
    exact hr
 obtain ⟨l,hl0⟩:∃ l,l=w.heap.size+1:=⟨_,rfl⟩
 obtain ⟨mk,hmk⟩:∃ mk:Deferred,mk={ target:=.collected w.heap.size,args:=#[] }:=⟨_,rfl⟩
 refine wpIn_rangeFunc fun fn hfn=>?_
 obtain ⟨rec,hrec⟩:∃ rec:LoopState->Loop,rec=fun st=>{ state:=st,pending:=none,fn,tmps:=a.tmps,params:=#[t1,t2],assign:=.region rid #[o] false,body,defers:=w.heap.size }:=⟨_,rfl⟩
 obtain ⟨W1,hW1⟩:∃ W1,(w.alloc (.deferred (some []))).alloc (.loop (rec .ready))=W1:=⟨_,rfl⟩
 have hsz1:W1.heap.size=w.heap.size+2:=by rw[<-hW1];simp
 have hL1:W1.heap[l]?=some (.loop (rec .ready)):=by
  rw[<-hW1,hl0];have:=World.alloc_heap_new (w.alloc (.deferred (some []))) (.loop (rec .ready));rwa [World.size_alloc] at this
 have hD1:W1.heap[w.heap.size]?=some (.deferred (some [])):=by
  rw[<-hW1];exact (Below.heap_alloc _ _ _ (by simp)).trans (World.alloc_heap_new w _)
 have hext:Ext w W1:=by rw[<-hW1];exact (Ext.alloc w _).trans (Ext.alloc _ _)
 have hblk:∀ k,k < w.heap.size->W1.heap[k]?=w.heap[k]?:=fun k hk=>hext.block k hk
 have hcell1:∀ (p:Addr),p.block < w.heap.size->W1.cell? p=w.cell? p:=fun p hp=>by simp only[World.cell?,hblk p.block hp]
 refine ⟨l,[mk],W1,{ target:=.fn (.func k) #[.pointer (some ⟨B,ob,none⟩)],args:=#[.func (.yield l) #[] #[]] },W1,k,#[.func (.yield l) #[] #[]]++#[.pointer (some ⟨B,ob,none⟩)],W1,?_,?_,fun _ _=>trivial,?_,(fun h=>by cases h),?_⟩
 ·rw[<-hW1,hrec,hl0,hmk];exact run_enterLoop_outer _ _ _ _ _
 ·simp only[resolve,hgval]
  simp[go_sem]
 ·simp[invoke,go_sem,eg]
 let f:Int×Nat->Au A.ps->Option (Au A.ps):=fun p y=>(round p.1 p.2 y).bind fun o=>some (merge y o)
 let J:Nat->World->Prop:=fun k W=>∃ y β,foldO f ((xs:List Int).zipIdx.reverse.take k) y0=some y/\SimB Γc (encSt A y) aC W β/\W.heap[l]?=some (.loop (rec .ready))/\W.heap[w.heap.size]?=some (.deferred (some []))
 have hΓw:Γc.w=w:=by rw[hΓc]
 have hlΓ:Γc.w.heap.size<=l:=by rw[hΓw];omega
 have hfr:∀ {st':St} {W:World} {β':Nat->Option Place},SimB Γc st' aC W β'->∀ B,B < w.heap.size->¬ AR (AX A.ps y0) βc B->W.heap[B]?=w.heap[B]?:=fun h B hB hn=>by
  have:=h.frm.block B (by rw[hΓw];exact hB) (by rw[hΓc];exact hn)
  rw[hΓw] at this;exact this
 refine CallsIn.mono (hback.2 B ob ad cap xs W1 l J (Nat.le_trans hlen (by decide)) ((hcell1 _ hBlt).trans hc0) (fun hne=>?_) (fun k x W hkx hJ=>?_) ?_) ?_
 ·obtain ⟨b,off,e,hb,_,hh⟩:=hcells hne
  exact ⟨b,off,e,fun k x hk=>(hcell1 _ hb).trans (hh k x hk)⟩
 ·-- a round
  obtain ⟨y,β,hy,hsW,hL,hD⟩:=hJ
  obtain ⟨y1,y2,e1,e2,e3⟩:=RU k _ y0 yN x hyN hkx
  have:some y=some y1:=hy.symm.trans e1
  cases this
  obtain ⟨x,i⟩:=x
  obtain ⟨ou,hou,hy2⟩:=Ae e2
  cases hy2
  rw[<-hround] at hou
  have hlt:l < W.heap.size:=(Array.getElem?_eq_some_iff.1 hL).1
  have hyield:=run_yield (P:=V.P) (args:=Fx kd (x,i)) hL (by rw[hrec];rfl)
  rw[hrec] at hyield
  refine ⟨fn,_,_,_,hyield,roundIn_of_wpIn hfn (Wu (ro:=some l) ho hd hgd ⟨W.putObj l (.loop (rec .busy)),by have:=run_beginRound (P:=V.P) hL (by rw[hrec]);rw[hrec] at this ⊢;exact this,?_⟩)⟩
  obtain ⟨W2,hW2⟩:∃ W2,W.putObj l (.loop (rec .busy))=W2:=⟨_,rfl⟩
  rw[hW2]
  have hL2:W2.heap[l]?=some (.loop (rec .busy)):=by rw[<-hW2];exact World.putObj_heap_same hlt
  have hoth2:∀ k,k≠l->W2.heap[k]?=W.heap[k]?:=fun k hk=>by rw[<-hW2];exact World.putObj_heap_other hk
  have hsz2:W2.heap.size=W.heap.size:=by rw[<-hW2];simp
  have hs2':SimB Γc (encSt A y) aC W2 β:=K_ (ds:=aC.defers) hsW (r:=l) (fun o ho=>by rw[hL] at ho;cases ho;exact ⟨by simp,by simp⟩) hlΓ (by rw[<-hW2];rfl) (by rw[<-hW2];rfl) (by rw[<-hW2];rfl) (by rw[hsz2];exact Nat.le_refl _) (fun B _ hne=>hoth2 B hne)
   (hsW.defers.keep fun D _ hD=>hoth2 D fun e=>by rw[e,hL] at hD;cases hD)
  have hm:=hmerge y ou
  unfold Oe at hm
  obtain ⟨x',y',ou',hgx,⟨s1,t1',m1,hdx⟩,v,H,hH,hcore⟩:=Nx (Γ:=Γc) (st:=encSt A y) (by rw[hΓc]) (by rw[hΓw];exact hG0) hm
  cases hgx
  have hd':=hdec y
  have hdx':AI (lift A.ps (AY A.ps y 0 (cntK A.ps)) (AX A.ps y)).2 [] A.ps (lift A.ps (AY A.ps y 0 (cntK A.ps)) (AX A.ps y)).1=some (x',s1,t1',m1):=hdx
  rw[hdx'] at hd'
  simp only[Option.bind_some,Option.some.injEq] at hd'
  subst hd'
  obtain ⟨I,βd,hG,hgb,hctx,hrel,hIsub,_,hend⟩:=hcore aC W2 β hs2' _ (by have:=Mc hs2' A.slots;rw[hslot] at this;exact this)
  obtain ⟨T,hT⟩:∃ T:Array Value,T=(#[t1,t2].zip (Fx kd (x,i))).foldl (fun tmps (t,a)=>tmps.setIfInBounds t a) a.tmps:=⟨_,rfl⟩
  have hat:T=(a.tmps.setIfInBounds t1 (.int .i64 i)).setIfInBounds t2 (.int kd x):=by rw[hT];simp[Fx]
  have hlenA:(encSt A x').tmps.length=a.tmps.size:=by have:=hsW.len;rw[haC] at this;exact this
  have hrel0:∀ (t:Nat) q,(encSt A x').tmps[t]?=some q->∃ v,a.tmps[t]?=some v/\RelV (Ag W2) I βd q v:=by
   intro t q hq
   have ht:t < a.tmps.size:=by rw[<-hlenA];exact (List.getElem?_eq_some_iff.1 hq).1
   refine ⟨_,IF ht,?_⟩
   rcases JL _ _ _ t q hq with hh | ⟨i,h1,h2⟩
   ·rw[List.getElem?_replicate] at hh
    split at hh
    ·cases hh;simp[RelV]
    ·cases hh
   ·obtain ⟨v,hv,hr⟩:=Dl _ _ hrel i q h2
    simp only[List.getElem?_map,h1,Option.map_some,Option.some.injEq] at hv
    subst hv
    rw[haC] at hr
    exact hr
  have hrel2:=NA (R:=RelV (Ag W2) I βd) (NA (R:=RelV (Ag W2) I βd) hrel0 hlenA (x:=.int .i64 i) (v:=.int .i64 i) (by simp[RelV]) t1) (by simp[hlenA]) (x:=.int kd x) (v:=.int kd x) (by simp[RelV]) t2
  have hsim:SimB ⟨V.gb,W2,I,βd,AX A.ps x'⟩ (Tn A t1 t2 s d kd x i x') (({ tmps:=T,defers:=[] }:Act).put (some d) (({ tmps:=T,defers:=[] }:Act).eval (.tmp s))) W2 βd:=by
   refine Oc hctx hgb ?_ ?_ (by have:=Il A.ps x';show cntK A.ps<=(AX A.ps x').length;omega)
   ·simp[Act.put,hat,hlenA]
   ·have:=NA (R:=RelV (Ag W2) I βd) hrel2 (by simp[hlenA]) (AFu hrel2 s) d
    simp only[Act.put,Act.eval,hat]
    exact this
  rw[<-hT]
  unfold Of at hou
  refine EY (ro:=some l) hE (Γ:=⟨V.gb,W2,I,βd,AX A.ps x'⟩) rfl hG body (hl l _ rfl hG) _ _ _ _ hou _ W2 ⟨βd,hsim⟩ _ fun ex st' a' W3 hs3 hK3=>?_
  cases ex with
  |exit id=>cases hK3
  |ret=>cases hK3
  |normal=>
  obtain ⟨⟨un,o3⟩,hfin,ho3⟩:=Ae hK3
  cases ho3
  obtain ⟨β3,hs3⟩:=hs3
  obtain ⟨us3,I3,β4,g1,g2,g3,g4⟩:=NZ hE (vs:=(A.slots.map fun t=>a.eval (.tmp t)).toArray) (by rw[haC] at hrel;have:(fun t=>({ tmps:=a.tmps,defers:=[] }:Act).eval (.tmp t))=fun t=>a.eval (.tmp t):=rfl;rw[this] at hrel;simpa using hrel) hs3 hfin
  obtain ⟨β5,k1,_,k3⟩:=hend W3 us3 I3 β4 g2 g3 g4
  obtain ⟨β6,k4,k5⟩:=QJ hH k1
  have hlive:∀ k,(∀ x,W2.heap[k]?≠some (.deferred x))/\(∀ x,W2.heap[k]?≠some (.loop x))\/¬ AR (AX A.ps x') βd k:=fun k=>by
   by_cases hh:AR (AX A.ps x') βd k
   ·exact .inl (hctx.live_obj hh)
   ·exact .inr hh
  have hD2:W2.heap[w.heap.size]?=some (.deferred (some [])):=(hoth2 _ (by omega)).trans hD
  have hL3:W3.heap[l]?=some (.loop (rec .busy)):=(g2.block l (by omega) ((hlive l).elim (fun h=>absurd hL2 (h.2 _)) id)).trans hL2
  have hD3:W3.heap[w.heap.size]?=some (.deferred (some [])):=(g2.block _ (Array.getElem?_eq_some_iff.1 hD2).1 ((hlive _).elim (fun h=>absurd hD2 (h.1 _)) id)).trans hD2
  have hlt3:l < W3.heap.size:=(Array.getElem?_eq_some_iff.1 hL3).1
  have hsim6:SimB Γc (encSt A (merge x' o3)) aC (W3.putObj l (.loop (rec .ready))) β6:=K_ (w':=W3.putObj l (.loop (rec .ready))) (ds:=aC.defers) k4 (r:=l) (fun o ho=>by rw[hL3] at ho;cases ho;exact ⟨by simp,by simp⟩) hlΓ rfl rfl rfl (by simp) (fun B _ hne=>World.putObj_heap_other hne)
   (k4.defers.keep fun D _ hD=>World.putObj_heap_other fun e=>by rw[e,hL3] at hD;cases hD)
  have hkeep:∀ B,B < w.heap.size->¬ AR (AX A.ps y0) βc B->(W3.putObj l (.loop (rec .ready))).heap[B]?=W.heap[B]?:=fun B hB hn=>(hfr hsim6 B hB hn).trans (hfr hsW B hB hn).symm
  refine ⟨.bool true,W3.putObj l (.loop (rec .ready)),by have:=run_endRound (P:=V.P) none hL3;rw[hrec] at this ⊢;exact this,rfl,⟨merge x' o3,β6,e3,hsim6,World.putObj_heap_same hlt3,(World.putObj_heap_other (by omega)).trans hD3⟩,?_,?_,?_⟩
  ·have:=g2.size;rw[World.putObj_size];omega
  ·exact hkeep _ hBlt hBnl
  ·intro k hk
   cases had:ad with
   |none=>rw[had] at hk;cases hk
   |some ad'=>
    rw[had] at hk
    simp only[Option.map_some,Option.some.injEq] at hk
    by_cases hne:xs=[]
    ·subst hne;simp at hkx
    ·obtain ⟨b',off',e',hb1,hb2,_⟩:=hcells hne
     have e2:=had.symm.trans e'
     cases e2
     subst hk
     exact hkeep _ hb1 hb2
 ·exact ⟨y0,βc,rfl,hs2.ext hext,hL1,hD1⟩
 ·rintro e W ⟨⟨v,rfl⟩,y,β',hy,hsW,hL,hD⟩
  have hlen2:(xs:List Int).zipIdx.reverse.take (xs:List Int).length=(xs:List Int).zipIdx.reverse:=List.take_of_length_le (by simp)
  rw[hlen2] at hy
  have:some y=some yN:=hy.symm.trans hyN
  cases this
  rw[hΓc] at hsW
  obtain ⟨us3,I3,β4,f1,f2,f3,f4⟩:=NZ hE (vs:=(A.slots.map fun t=>a.eval (.tmp t)).toArray) (by simpa using hrel0) hsW (houts yN)
  obtain ⟨β5,k1,_,_⟩:=hend0 W us3 I3 β4 f2 f3 f4
  refine ⟨none,W.putObj l (.loop (rec .exhausted)),by have:=run_endLoop (P:=V.P) hL (by rw[hrec];simp);rw[hrec] at this ⊢;exact this,hQ .normal { st with heap:=H0 } _ _ ⟨β5,?_⟩ hK0⟩
  refine K_ (w':=W.putObj l (.loop (rec .exhausted))) (ds:=[mk]++a.defers) k1 (r:=l) (fun o ho=>by rw[hL] at ho;cases ho;exact ⟨by simp,by simp⟩) (by have:=hs.frm.size;omega) rfl rfl rfl (by simp) (fun B _ hne=>World.putObj_heap_other hne) ⟨?_,?_⟩
  ·refine List.nodup_cons.2 ⟨fun hmem=>?_,hs.defers.1⟩
   obtain ⟨D,h1,_,h3⟩:=hs.defers.2 _ hmem
   rw[hmk] at h1
   cases h1
   have:=(Array.getElem?_eq_some_iff.1 h3).1
   omega
  ·intro d' hd'
   rcases List.mem_cons.1 hd' with rfl | hd'
   ·exact ⟨w.heap.size,hmk,hs.frm.size,(World.putObj_heap_other (by omega)).trans hD⟩
   ·obtain ⟨D,h1,h2,h3⟩:=k1.defers.2 _ hd'
    exact ⟨D,h1,h2,(World.putObj_heap_other fun e=>by rw[e,hL] at h3;cases h3).trans h3⟩
end
end Go.AM
end
section
namespace Go.AM
open Go.RowKit (Below)
def GF:Code->Bool
 |.loop _=>true
 |_=>false
def WZ:Code->Bool
 |.rangeFunc ..=>true
 |_=>false
def HD:Code->Code
 |.loop a=>a
 |.rangeFunc _ _ _ a=>a
 |_=>.skip
def Bf:Code->List Code
 |.seq a b=>Bf a++Bf b
 |.cond _ a b=>Bf a++Bf b
 |.block _ a=>Bf a
 |.loop a=>.loop a::Bf a
 |.rangeFunc g ps a c=>.rangeFunc g ps a c::Bf c
 |.region id ops draw=>if OE draw ops then [.region id ops draw] else []
 |_=>[]
def pick (id:Nat):List Code->Code
 |[]=>.skip
 |a::l=>cond (Nat.beq (Ck a) id) a (pick id l)
theorem J':∀ (l:List Code) {a:Code},a∈l->Cj (l.map Ck)=true->pick (Ck a) l=a
 |b::l,a,h,hn=>by
  simp only[List.map_cons,Cj,qY0,Bool.not_eq_true'] at hn
  simp only[pick]
  by_cases e:Ck b=Ck a
  ·rw[e,show Nat.beq (Ck a) (Ck a)=true from by simp]
   rcases List.mem_cons.1 h with rfl | h
   ·rfl
   ·have:=hn.1
    rw[e] at this
    simp only[List.contains_eq_mem,decide_eq_false_iff_not,List.mem_map,not_exists,not_and] at this
    exact absurd rfl (this a h)
  ·have e':Nat.beq (Ck b) (Ck a)=false:=by
    cases hb:Nat.beq (Ck b) (Ck a) with
    |false=>rfl
    |true=>exact absurd (Nat.eq_of_beq_eq_true hb) e
   rw[e']
   rcases List.mem_cons.1 h with rfl | h
   ·exact absurd rfl e
   ·exact J' l h hn.2
inductive LE where
 |lp (id:Nat) (A:Ann) (exs:List Ex) (step:Au A.ps->Option (Ex×Au A.ps))
 |raw (id:Nat) (L:LoopO)
 |lr (id:Nat) (A R:Ann) (exs:List Ex) (step:Au A.ps->Option (Ex×(Au A.ps ⊕ Au R.ps)))
def LE.key:LE->Nat
 |.lp id _ _ _=>id
 |.raw id _=>id
 |.lr id _ _ _ _=>id
noncomputable def LE.lo:LE->LoopO
 |.lp _ A exs step=>Mm A exs step
 |.raw _ L=>L
 |.lr _ A R exs step=>M2 A R exs step
noncomputable def IU:List LE->Nat->Option LoopO
 |[],_=>none
 |e::l,i=>if i=e.key then some e.lo else IU l i
theorem Lh:∀ {l:List LE} {i:Nat} {L:LoopO},IU l i=some L->∃ e∈l,e.key=i/\e.lo=L
 |e::l,i,L,h=>by
  simp only[IU] at h
  split at h
  ·rename_i hi;cases h;exact ⟨e,List.mem_cons_self,hi.symm,rfl⟩
  ·obtain ⟨e',h1,h2⟩:=Lh h;exact ⟨e',qY13 _ h1,h2⟩
def Rv (V:Env) (E:Tab) (ro:Option Nat) (c:Code):Prop:=∀ Γ:Base,Γ.gb=V.gb->V.G Γ.w->∀ a∈BA c,∀ L,E.lp (Ck a)=some L->DP V Γ ro a fun ρ=>L.f ρ
def LE.OK (V:Env) (E:Tab) (c:Code):LE->Prop
 |.lp id A _ step=>∀ x,run E (HD (pick id (Bf c))) (encSt A x) (fun ex st=>(C' A (C1 A st)).bind fun y=>some (ex,y))=step x
 |.raw id L=>∀ (Γ:Base) (ro:Option Nat),Γ.gb=V.gb->V.G Γ.w->(ro=none\/WZ (pick id (Bf c))=false)->(∀ ro',ro=none->Rv V E ro' (HD (pick id (Bf c))))->DP V Γ ro (pick id (Bf c)) fun ρ=>L.f ρ
 |.lr id A R _ step=>∀ x,run E (HD (pick id (Bf c))) (encSt A x) (Gj A R)=step x
def Fb (V:Env) (E:Tab) (c:Code) (l:List LE):Prop:=∀ e∈l,e.OK V E c
def I8 (c:Code) (l:List LE):Bool:=Cj ((Bf c).map Ck)&&l.all fun e=>match e with
 |.lp id _ _ _ | .lr id _ _ _ _=>GF (pick id (Bf c))
 |.raw id _=>!GF (pick id (Bf c))
def BI:Code->Bool
 |.seq a b=>BI a&&BI b
 |.cond _ a b=>BI a&&BI b
 |.block _ a=>BI a
 |.loop a=>BI a
 |.rangeFunc ..=>false
 |_=>true
def BS:Code->Bool
 |.seq a b=>BS a&&BS b
 |.cond _ a b=>BS a&&BS b
 |.block _ a=>BS a
 |.loop a=>BS a
 |.rangeFunc _ _ _ a=>BI a
 |_=>true
section
variable {V:Env} {E:Tab}
theorem FC (hE:TabOK V E) {l:List LE} (hl:∀ i,E.lp i=IU l i) {body:Code} (hc:I8 body l=true) (hok:Fb V E body l):∀ (c:Code),(∀ a∈Bf c,a∈Bf body)->∀ ro,(ro=none/\BS c=true\/BI c=true)->Rv V E ro c
 |.seq a b,hs,ro,hf=>fun Γ hg h0 x hx=>by
  simp only[BA,qZ7] at hx
  have hfa:(ro=none/\BS a=true\/BI a=true)/\(ro=none/\BS b=true\/BI b=true):=by
   rcases hf with ⟨h1,h2⟩ | h2
   ·simp only[BS,qY0] at h2;exact ⟨.inl ⟨h1,h2.1⟩,.inl ⟨h1,h2.2⟩⟩
   ·simp only[BI,qY0] at h2;exact ⟨.inr h2.1,.inr h2.2⟩
  rcases hx with hx | hx
  ·exact FC hE hl hc hok a (fun y hy=>hs y (by simp[Bf,hy])) ro hfa.1 Γ hg h0 x hx
  ·exact FC hE hl hc hok b (fun y hy=>hs y (by simp[Bf,hy])) ro hfa.2 Γ hg h0 x hx
 |.cond _ a b,hs,ro,hf=>fun Γ hg h0 x hx=>by
  simp only[BA,qZ7] at hx
  have hfa:(ro=none/\BS a=true\/BI a=true)/\(ro=none/\BS b=true\/BI b=true):=by
   rcases hf with ⟨h1,h2⟩ | h2
   ·simp only[BS,qY0] at h2;exact ⟨.inl ⟨h1,h2.1⟩,.inl ⟨h1,h2.2⟩⟩
   ·simp only[BI,qY0] at h2;exact ⟨.inr h2.1,.inr h2.2⟩
  rcases hx with hx | hx
  ·exact FC hE hl hc hok a (fun y hy=>hs y (by simp[Bf,hy])) ro hfa.1 Γ hg h0 x hx
  ·exact FC hE hl hc hok b (fun y hy=>hs y (by simp[Bf,hy])) ro hfa.2 Γ hg h0 x hx
 |.block _ a,hs,ro,hf=>fun Γ hg h0 x hx=>by
  simp only[BA] at hx
  exact FC hE hl hc hok a (fun y hy=>hs y (by simpa [Bf] using hy)) ro (by simpa [BI,BS] using hf) Γ hg h0 x hx
 |.loop a,hs,ro,hf=>fun Γ hg h0 x hx L hL=>by
  simp only[BA,qZ8] at hx
  subst hx
  have hin:=FC hE hl hc hok a (fun y hy=>hs y (by simp[Bf,hy])) ro (by simpa [BI,BS] using hf) Γ hg h0
  simp only[I8,qY0] at hc
  have hp:=J' _ (hs (.loop a) (by simp[Bf])) hc.1
  rw[hl] at hL
  obtain ⟨e,he,hk,rfl⟩:=Lh hL
  cases e with
  |lp id A exs step=>
   simp only[LE.key] at hk;subst hk
   have h:=hok _ he
   simp only[LE.OK] at h
   rw[hp] at h
   exact AFG hE hg h0 hin h
  |lr id A R exs step=>
   simp only[LE.key] at hk;subst hk
   have h:=hok _ he
   simp only[LE.OK] at h
   rw[hp] at h
   exact AFx hE hg h0 hin h
  |raw id L=>
   simp only[LE.key] at hk;subst hk
   have:=List.all_eq_true.1 hc.2 _ he
   simp only[hp,GF,qY2] at this
   cases this
 |.rangeFunc g ps r a,hs,ro,hf=>fun Γ hg h0 x hx L hL=>by
  simp only[BA,qZ8] at hx
  subst hx
  have hro:ro=none/\BI a=true:=by
   rcases hf with ⟨h1,h2⟩ | h
   ·exact ⟨h1,by simpa [BS] using h2⟩
   ·simp[BI] at h
  have hin:=fun ro'=>FC hE hl hc hok a (fun y hy=>hs y (by simp[Bf,hy])) ro' (.inr hro.2)
  simp only[I8,qY0] at hc
  have hp:=J' _ (hs (.rangeFunc g ps r a) (by simp[Bf])) hc.1
  rw[hl] at hL
  obtain ⟨e,he,hk,rfl⟩:=Lh hL
  cases e with
  |lp id A exs step=>
   simp only[LE.key] at hk;subst hk
   have:=List.all_eq_true.1 hc.2 _ he
   simp only[hp,GF] at this
   cases this
  |lr id A R exs step=>
   simp only[LE.key] at hk;subst hk
   have:=List.all_eq_true.1 hc.2 _ he
   simp only[hp,GF] at this
   cases this
  |raw id L=>
   simp only[LE.key] at hk;subst hk
   have h:=hok _ he
   simp only[LE.OK] at h
   rw[hp] at h
   exact h Γ ro hg h0 (.inl hro.1) fun ro' _=>hin ro'
 |.region id ops draw,hs,ro,hf=>fun Γ hg h0 x hx L hL=>by
  simp only[BA] at hx
  split at hx
  case isFalse=>simp at hx
  rename_i hh
  simp only[qZ8] at hx
  subst hx
  simp only[I8,qY0] at hc
  have hp:=J' _ (hs (.region id ops draw) (by simp[Bf,hh])) hc.1
  rw[hl] at hL
  obtain ⟨e,he,hk,rfl⟩:=Lh hL
  cases e with
  |lp id' A exs step=>
   simp only[LE.key] at hk;subst hk
   have:=List.all_eq_true.1 hc.2 _ he
   simp only[hp,GF] at this
   cases this
  |lr id' A R exs step=>
   simp only[LE.key] at hk;subst hk
   have:=List.all_eq_true.1 hc.2 _ he
   simp only[hp,GF] at this
   cases this
  |raw id' L=>
   simp only[LE.key] at hk;subst hk
   have h:=hok _ he
   simp only[LE.OK] at h
   rw[hp] at h
   exact h Γ ro hg h0 (.inr rfl) fun ro' _ Γ' _ _ b hb=>by simp[HD,BA] at hb
 |.skip,_,_,_ | .exit ..,_,_,_ | .ret,_,_,_ | .label ..,_,_,_ | .goto ..,_,_,_ | .scope ..,_,_,_ | .refuse ..,_,_,_=>fun Γ hg h0 x hx=>by simp[BA] at hx
theorem AG {c:Code}:Fb V E c []:=fun e h=>by cases h
theorem AA {c:Code} {id:Nat} {A:Ann} {exs:List Ex} {step:Au A.ps->Option (Ex×Au A.ps)} {l:List LE} (h:∀ x,run E (HD (pick id (Bf c))) (encSt A x) (fun ex st=>(C' A (C1 A st)).bind fun y=>some (ex,y))=step x) (r:Fb V E c l):Fb V E c (.lp id A exs step::l):=fun e he=>by
 rcases List.mem_cons.1 he with rfl | he
 ·exact h
 ·exact r e he
theorem AA7 {c:Code} {id:Nat} {A R:Ann} {exs:List Ex} {step:Au A.ps->Option (Ex×(Au A.ps ⊕ Au R.ps))} {l:List LE} (h:∀ x,run E (HD (pick id (Bf c))) (encSt A x) (Gj A R)=step x) (r:Fb V E c l):Fb V E c (.lr id A R exs step::l):=fun e he=>by
 rcases List.mem_cons.1 he with rfl | he
 ·exact h
 ·exact r e he
theorem OA {c:Code} {id:Nat} {L:LoopO} {l:List LE} (h:(LE.raw id L).OK V E c) (r:Fb V E c l):Fb V E c (.raw id L::l):=fun e he=>by
 rcases List.mem_cons.1 he with rfl | he
 ·exact h
 ·exact r e he
theorem O5 {A:Ann} {kb:Nat} {kd:IntKind} {g:Operand} {t1 t2 s d rid:Nat} {o:Oper} {body c:Code} {id:Nat} {round:Int->Nat->Au A.ps->Option (BW A.ps)} {merge:Au A.ps->BW A.ps->Au A.ps} {outs:Au A.ps->BW A.ps} (hE:TabOK V E)
 (hback:Ka V.P kb kd) (hp:pick id (Bf c)=.rangeFunc g #[t1,t2] (.region rid #[o] false) body) (ho:o.op=.assign (.tmp s)) (hd:o.dst=some d) (hgd:o.guard=none)
 (hround:∀ v i y,Of E A t1 t2 s d kd body v i y=round v i y) (hmerge:∀ y o,Oe A y o=some (merge y o))
 (hdec:∀ y,(AI (lift A.ps (AY A.ps y 0 (cntK A.ps)) (AX A.ps y)).2 [] A.ps (lift A.ps (AY A.ps y 0 (cntK A.ps)) (AX A.ps y)).1).bind (fun r=>some r.1)=some y)
 (hslot:∀ y,(A.slots.map fun t=>(encSt A y).tmps.getD t .any)=AY A.ps y 0 (cntK A.ps)) (hog:A.og=List.range (cntK A.ps)) (houts:∀ y,Gw E [] A.ps [] (encSt A y)=some ((),outs y)) :
 (LE.raw id (Jg A kb kd g (fun v i y=>(round v i y).bind fun o=>some (merge y o)) outs)).OK V E c:=fun Γ ro hg h0 hro hin=>by
 rw[hp] at hro hin ⊢
 obtain rfl:ro=none:=hro.elim (fun h=>h) fun h=>by cases h
 exact AEn hE hg h0 hback ho hd hgd (fun l Γ' hg' h0'=>hin (some l) rfl Γ' hg' h0') hround hmerge hdec hslot hog houts
abbrev FL:=List (Nat×Option Nat×Callee)
structure Fs (P:Program) (V:Env) (l:FL):Prop where
 prog:V.P=P
 all:LD V l
theorem Fs.cons {P:Program} {l:FL} (h:Fs P V l) {k:Nat} {s:Option Nat} {C:Callee} (g:Good V k C):Fs P V ((k,s,C)::l):=⟨h.prog,AG9 g h.all⟩
noncomputable def IG (ti:List (Nat×TI)) (fl:FL) (ls:List LE) (lit:List Nat) (pr:List (Nat×List Nat×List Nat)) (bk:List (Nat×Nat)):Tab:=⟨Ek ti,KB fl,IU ls,lit,pr,bk⟩
def Mr (fn : Func) (C : Callee) (ls : List LE) : Bool := fn.body.isSome && !(fn.name == "runtime.NumGoroutine") && Nat.ble C.ps.length fn.ntmps && BS (fb fn) && I8 (fb fn) ls
theorem YW {P:Program} {ti:List (Nat×TI)} {fl:FL} {ls:List LE} {lit:List Nat} {pr:List (Nat×List Nat×List Nat)} {bk:List (Nat×Nat)} (h:Fs P V fl) (hti:Gf P ti) (hbk:IM P bk):TabOK V (IG ti fl ls lit pr bk):=⟨h.prog ▸ hti,h.all,h.prog ▸ hbk⟩
theorem gd {P:Program} {ti:List (Nat×TI)} {fl:FL} (ls:List LE) (lit:List Nat) (pr:List (Nat×List Nat×List Nat)) {bk:List (Nat×Nat)} {k:Nat} {fn:Func} {C:Callee} (h:Fs P V fl) (hti:Gf P ti) (hbk:IM P bk) (hf:P.funcs[k]?=some fn) (hc:Mr fn C ls=true)
 (hls:TabOK V (IG ti fl ls lit pr bk)->Fb V (IG ti fl ls lit pr bk) (fb fn) ls) (hr:∀ x,L4 (IG ti fl ls lit pr bk) fn.ntmps fn.results.toList (fb fn) C.ps C.rk x=C.g x):Good V k C:=by
 simp only[Mr,qY0,Bool.not_eq_true'] at hc
 obtain ⟨⟨⟨⟨h1,h2⟩,h3⟩,h4⟩,h5⟩:=hc
 have hb:fn.body=some (fb fn):=by
  unfold fb
  cases hh:fn.body with
  |none=>rw[hh] at h1;cases h1
  |some c=>rfl
 have hE:=YW (ls:=ls) (lit:=lit) (pr:=pr) h hti hbk
 exact AB4 hE (h.prog ▸ hf) hb h2 (Nat.le_of_ble_eq_true h3) (fun Γ hg h0=>FC hE (fun _=>rfl) h5 (hls hE) (fb fn) (fun _ h=>h) none (.inl ⟨rfl,h4⟩) Γ hg h0) hr
theorem gz {P:Program} {ti:List (Nat×TI)} {fl:FL} {k:Nat} {fn:Func} {C:Callee} (h:Fs P V fl) (hti:Gf P ti) (hf:P.funcs[k]?=some fn) (hc:Mr fn C []=true)
 (hr:∀ x,L4 (IG ti fl [] [] [] []) fn.ntmps fn.results.toList (fb fn) C.ps C.rk x=C.g x):Good V k C:=gd [] [] [] h hti AF hf hc (fun _=>AG) hr
end
end Go.AM
end
section
namespace Go.AM
open Go.RowKit (Below)
def KK (q:Nat) (ps:List Nat) (i j:Nat):Bool:=decide (j=q)&&ps.contains i
def D5 (q p:Nat) (R:List Nat):List Nat:=R.filter (fun x=>decide (x < p)&&decide (x≠q))++q::R.filter (fun x=>decide (p<=x)&&decide (x≠q))
def Hi (E:Tab) (ex:Option (List Nat)) (q:Nat) (ps:List Nat) (ops:Array Oper):Bool:=
 GL E (KK q ps) ex ops&&decide (q < ops.size)&&ps.all (fun p=>decide (p < q))&&
 (ps.all fun i=>ps.all fun p=>!decide (p < i)||((FQ ops.toList []).getD i 0).testBit p)&&
 (List.range q).all fun k=>ps.contains k||match ops[k]?,ops[q]? with
  |some x,some y=>!Dw E ex ops x y&&!Dw E ex ops y x
  |_,_=>false
def SJ:Code->Array Oper
 |.region _ ops _=>ops
 |_=>#[]
theorem AGs {P:Nat->Prop}:∀ n,P n->∃ m,P m/\∀ k,P k->m<=k:=by
 intro n
 induction n using Nat.strongRecOn with
 |_ n ih=>
  intro h
  by_cases hh:∃ k,k < n/\P k
  ·obtain ⟨k,h1,h2⟩:=hh;exact ih k h1 h2
  ·exact ⟨n,h,fun k hk=>Nat.le_of_not_lt fun hl=>hh ⟨k,hl,hk⟩⟩
theorem VV {q p:Nat} {R:List Nat} (hR:R.Pairwise (· < ·)):(D5 q p R).Pairwise fun a b=>(a≠q->b≠q->a < b)/\(a=q->p<=b/\b≠q):=by
 unfold D5
 refine List.pairwise_append.2 ⟨?_,List.pairwise_cons.2 ⟨fun b hb=>?_,?_⟩,fun a ha b hb=>?_⟩
 ·refine (hR.filter _).imp_of_mem fun ha hb h=>⟨fun _ _=>h,fun e=>?_⟩
  simp[e] at ha
 ·simp only[List.mem_filter,qY0,decide_eq_true_eq] at hb
  exact ⟨fun h=>absurd rfl h,fun _=>hb.2⟩
 ·refine (hR.filter _).imp_of_mem fun ha hb h=>⟨fun _ _=>h,fun e=>?_⟩
  simp[e] at ha
 ·simp only[List.mem_filter,qY0,decide_eq_true_eq] at ha
  rcases List.mem_cons.1 hb with rfl | hb
  ·exact ⟨fun _ h=>absurd rfl h,fun e=>absurd e ha.2.2⟩
  ·simp only[List.mem_filter,qY0,decide_eq_true_eq] at hb
   exact ⟨fun _ _=>by omega,fun e=>absurd e ha.2.2⟩
theorem Oz {q p k:Nat} {R:List Nat} (hq:q∈R):k∈D5 q p R ↔ k∈R:=by
 unfold D5
 simp only[qZ7,qY12,List.mem_filter,qY0,decide_eq_true_eq]
 constructor
 ·rintro (h | rfl | h)
  ·exact h.1
  ·exact hq
  ·exact h.1
 ·intro h
  by_cases e:k=q
  ·exact .inr (.inl e)
  ·rcases Nat.lt_or_ge k p with h' | h'
   ·exact .inl ⟨h,h',e⟩
   ·exact .inr (.inr ⟨h,h',e⟩)
theorem AEX {q p i:Nat} {R:List Nat} (hi:i≠q):D5 q p (R.filter fun x=>decide (x≠i))=(D5 q p R).filter fun x=>decide (x≠i):=by
 unfold D5
 have:decide (q≠i)=true:=by simp;exact fun e=>hi e.symm
 simp only[List.filter_append,List.filter_cons,this,if_true,List.filter_filter]
 congr 1
 ·exact List.filter_congr fun x _=>by rw[Bool.and_comm]
 ·congr 1
  exact List.filter_congr fun x _=>by rw[Bool.and_comm]
theorem T6 {i:Nat} {l1 l2:List Nat} (h1:i∉l1) (h2:i∉l2):(l1++i::l2).filter (fun x=>decide (x≠i))=l1++l2:=by
 have k1:l1.filter (fun x=>decide (x≠i))=l1:=List.filter_eq_self.2 fun x hx=>by simp;rintro rfl;exact h1 hx
 have k2:l2.filter (fun x=>decide (x≠i))=l2:=List.filter_eq_self.2 fun x hx=>by simp;rintro rfl;exact h2 hx
 simp only[List.filter_append,List.filter_cons,k1,k2]
 simp
theorem ABh {q p:Nat} {R:List Nat} (hR:R.Pairwise (· < ·)):R.filter (fun x=>decide (x < p)&&decide (x≠q))++R.filter (fun x=>decide (p<=x)&&decide (x≠q))=R.filter fun x=>decide (x≠q):=by
 induction R with
 |nil=>rfl
 |cons a R ih=>
  have h:=List.pairwise_cons.1 hR
  have ih:=ih h.2
  by_cases ha:a=q
  ·subst ha;simpa [List.filter_cons] using ih
  ·rcases Nat.lt_or_ge a p with h' | h'
   ·have:¬ p<=a:=by omega
    simp only[List.filter_cons,h',this,ha,ne_eq,not_false_eq_true,decide_true,decide_false,Bool.and_self,Bool.false_and,if_true,Bool.false_eq_true,if_false,qY5]
    rw[<-ih]
   ·have hn:¬ a < p:=by omega
    have e:R.filter (fun x=>decide (x < p)&&decide (x≠q))=[]:=List.filter_eq_nil_iff.2 fun x hx=>by
     have:=h.1 x hx
     simp;intro;omega
    rw[e,qY15] at ih
    simp only[List.filter_cons,h',hn,ha,ne_eq,not_false_eq_true,decide_true,decide_false,Bool.and_self,Bool.false_and,if_true,Bool.false_eq_true,if_false]
    exact (congrArg (·++a::R.filter fun x=>decide (p<=x)&&decide (x≠q)) e).trans (congrArg (a::·) ih)
section
variable {V:Env} {Γ:Base} {E:Tab} {ro:Option Nat} {pr:Option (List Nat×List Nat)} {ops:Array Oper}
theorem ABl {j i:Nat} (h:((FQ ops.toList []).getD j 0).testBit i=true) {y:Oper} (hy:ops[j]?=some y) {D:Nat->Prop} (hD:∀ k o,ops[k]?=some o->D k->∀ e∈o.after.toList,Region.binds .any e=true->D e.on) (hed:∀ e∈y.after.toList,Region.binds .any e=true->D e.on):D i:=by
 rw[qZ4] at h
 cases hm:(FQ ops.toList [])[j]? with
 |none=>rw[hm] at h;simp at h
 |some m=>
  rw[hm] at h
  exact N7 ops.toList [] (fun n=>by simp) (fun j m hj=>by simp at hj) j m hm i h D hD y hy hed
theorem AG5 (hE:TabOK V E) (hg:Γ.gb=V.gb) (h0:V.G Γ.w) {q:Nat} {ps:List Nat} (hc:Hi E (pr.map (·.2)) q ps ops=true) {good:St->Prop} {Q:Exit->Act->World->Prop} (hQ:∀ stn,good stn->∀ a w,BC Γ stn a w->Q .normal a w) :
 ∀ (R:List Nat) (listed:Array Bool) (st:St) (a:Act) (w:World),listed.size=ops.size->R.Pairwise (· < ·)->(∀ i,i∈R ↔ i < ops.size/\listed.getD i true=false)->
  (∀ k o,ops[k]?=some o->listed.getD k false=true->∀ e∈o.after.toList,Region.binds .any e=true->listed.getD e.on false=true)->q∈R->
  (∀ p∈q::ps,p∈R->∃ stn,C3 E pr ops (D5 q p R) st=some stn/\good stn)->BC Γ st a w->wpAnyIn (FR ro) 0 V.P .any ops Q R.length listed a w:=by
 simp only[Hi,qY0,decide_eq_true_eq] at hc
 obtain ⟨⟨⟨⟨hd,hqlt⟩,hpq⟩,hmask⟩,hno⟩:=hc
 obtain ⟨d1,d2⟩:=Rs hd
 have hpq:∀ p∈ps,p < q:=fun p hp=>by simpa using List.all_eq_true.1 hpq p hp
 have hno:∀ k x y,k < q->k∉ps->ops[k]?=some x->ops[q]?=some y->Dw E (pr.map (·.2)) ops x y=false/\Dw E (pr.map (·.2)) ops y x=false:=fun k x y hk hn hx hy=>by
  have:=List.all_eq_true.1 hno k (List.mem_range.2 hk)
  rw[hx,hy] at this
  simpa [hn] using this
 intro R
 generalize hn:R.length=n
 induction n generalizing R with
 |zero=>
  intro listed st a w hsz hR hmem hcl hqR _ hs
  rw[List.eq_nil_of_length_eq_zero hn] at hqR
  simp at hqR
 |succ n ih=>
  intro listed st a w hsz hR hmem hcl hqR hruns hs
  have hlt:∀ {i:Nat},listed.getD i false=true->i < ops.size/\listed.getD i true=true:=by
   intro i h
   by_cases hi:i < listed.size
   ·simp only[Array.getD_eq_getD_getElem?,Array.getElem?_eq_getElem hi,Option.getD_some] at h ⊢
    exact ⟨by omega,h⟩
   ·simp[Array.getD_eq_getD_getElem?,Array.getElem?_eq_none (by omega:listed.size<=i)] at h
  have hnot:∀ {k:Nat},k∈R->listed.getD k false=true->False:=fun hk h=>by
   have h2:=((hmem _).1 hk).2
   rw[(hlt h).2] at h2;cases h2
  refine ⟨fun hr=>?_,fun i hi=>?_⟩
  ·exfalso
   cases R with
   |nil=>simp at hn
   |cons r R=>
    obtain ⟨h1,h2⟩:=(hmem r).1 List.mem_cons_self
    have:r∈Region.ready .any ops listed:=by
     refine mem_ready.2 ⟨h2,_,Array.getElem?_eq_getElem h1,fun e he hb=>?_⟩
     have hlt':=d1 r _ (Array.getElem?_eq_getElem h1) e (by simpa using he) hb
     have hno:e.on∉r::R:=by
      intro hm
      rcases List.mem_cons.1 hm with h | h
      ·omega
      ·have:=(List.pairwise_cons.1 hR).1 _ h;omega
     have:¬ (e.on < ops.size/\listed.getD e.on true=false):=fun h=>hno ((hmem e.on).2 h)
     have hlo:e.on < listed.size:=by omega
     simp only[Array.getD_eq_getD_getElem?,Array.getElem?_eq_getElem hlo,Option.getD_some] at this ⊢
     cases hx:listed[e.on] with
     |true=>rfl
     |false=>exact absurd ⟨by omega,hx⟩ this
    rw[hr] at this
    simp at this
  ·obtain ⟨h1,y,hy,hed⟩:=mem_ready.1 hi
   have hilt:=(Array.getElem?_eq_some_iff.1 hy).1
   have hiR:i∈R:=(hmem i).2 ⟨hilt,h1⟩
   have hset:∀ k (d:Bool),(listed.setIfInBounds i true).getD k d=if k=i then (if i < ops.size then true else d) else listed.getD k d:=by
    intro k d
    by_cases e:k=i
    ·subst e
     rw[if_pos rfl,if_pos hilt]
     simp[Array.getD_eq_getD_getElem?,hsz,hilt]
    ·rw[if_neg e];exact getD_set_ne d (fun h=>e h.symm)
   have hcl':∀ k o,ops[k]?=some o->(listed.setIfInBounds i true).getD k false=true->∀ e∈o.after.toList,Region.binds .any e=true->(listed.setIfInBounds i true).getD e.on false=true:=fun k o ho hk e he hb=>by
    rw[hset] at hk ⊢
    have key:listed.getD e.on false=true:=by
     by_cases ek:k=i
     ·subst ek
      rw[hy] at ho;cases ho
      exact hed e (by simpa using he) hb
     ·rw[if_neg ek] at hk
      exact hcl k o ho hk e he hb
    split
    ·rfl
    ·exact key
   have hR':(R.filter fun x=>decide (x≠i)).Pairwise (· < ·):=hR.filter _
   have hmem':∀ k,k∈(R.filter fun x=>decide (x≠i)) ↔ k < ops.size/\(listed.setIfInBounds i true).getD k true=false:=fun k=>by
    rw[hset,List.mem_filter,hmem k]
    by_cases e:k=i
    ·subst e;simp[hilt]
    ·simp[e]
   have hlen:(R.filter fun x=>decide (x≠i)).length=n:=by
    obtain ⟨l1,l2,rfl⟩:=List.append_of_mem hiR
    have hpw:=List.pairwise_append.1 hR
    rw[T6 (fun h=>by have:=hpw.2.2 i h i List.mem_cons_self;omega) (fun h=>by have:=(List.pairwise_cons.1 hpw.2.1).1 i h;omega)]
    simp at hn ⊢;omega
   have hed':∀ e∈y.after.toList,Region.binds .any e=true->listed.getD e.on false=true:=fun e he hb=>hed e (by simpa using he) hb
   by_cases hiq:i=q
   ·subst hiq
    obtain ⟨p,⟨hp1,hp2⟩,hmin⟩:=AGs (P:=fun p=>p∈i::ps/\p∈R) i ⟨List.mem_cons_self,hiR⟩
    obtain ⟨stn,hst,hgd⟩:=hruns p hp1 hp2
    have hpi:p<=i:=hmin i ⟨List.mem_cons_self,hiR⟩
    obtain ⟨st',s1,s2⟩:=Kl _ hy (fun k hk x hx=>by
     simp only[List.mem_filter,qY0,decide_eq_true_eq] at hk
     have hkp:k∉ps:=fun h=>by have:=hmin k ⟨qY13 _ h,hk.1⟩;omega
     exact (hno k x y (by omega) hkp hx hy).1) hst
    refine Lp hE hg h0 hy s1 hs fun a' w' hs'=>?_
    rw[ABh hR] at s2
    rw[<-hlen]
    exact Ro hE hg h0 hd (hQ stn hgd) _ _ st' a' w' (by simpa using hsz) hR' hmem' hcl' s2 (fun p' q' hb=>.inr (by
     simp only[KK,qY0,decide_eq_true_eq] at hb
     rw[hb.1];simp)) hs'
   ·have hqR':q∈R.filter fun x=>decide (x≠i):=by simp[hqR];exact fun e=>hiq e.symm
    have front:∀ p∈q::ps,p∈R->p≠i->∃ st' stn,DL E true pr ops y st=some st'/\C3 E pr ops (D5 q p (R.filter fun x=>decide (x≠i))) st'=some stn/\good stn:=fun p hp hpR hpi=>by
     obtain ⟨stn,hst,hgd⟩:=hruns p hp hpR
     obtain ⟨l1,l2,e⟩:=List.append_of_mem ((Oz (p:=p) hqR).2 hiR)
     have hpw:=VV (q:=q) (p:=p) hR
     rw[e] at hpw hst
     have hpw:=List.pairwise_append.1 hpw
     obtain ⟨st',s1,s2⟩:=Kl l1 hy (fun k hk x hx=>by
      have hr:=hpw.2.2 k hk i List.mem_cons_self
      have hkR:k∈R:=(Oz (p:=p) hqR).1 (by rw[e];exact List.mem_append_left _ hk)
      by_cases hkq:k=q
      ·subst hkq
       have hpi':=(hr.2 rfl).1
       rcases Nat.lt_or_ge k i with hki | hki
       ·cases hcl2:Dw E (pr.map (·.2)) ops x y with
        |false=>rfl
        |true=>
         have:=d2 k i x y hki (by simp[KK,hiq]) hx hy hcl2 (fun k=>listed.getD k false=true) hcl hed'
         exact (hnot hkR this).elim
       ·have hik:i < k:=by omega
        by_cases hip:i∈ps
        ·have hpp:p∈ps:=by
          rcases List.mem_cons.1 hp with rfl | h
          ·omega
          ·exact h
         have hm:=List.all_eq_true.1 (List.all_eq_true.1 hmask i hip) p hpp
         have hlt2:p < i:=by omega
         simp only[hlt2,decide_true,qY2,Bool.false_or] at hm
         have:=ABl hm hy (D:=fun k=>listed.getD k false=true) hcl hed'
         exact (hnot hpR this).elim
        ·exact (hno i y x hik hip hy hx).2
      ·have hki:=hr.1 hkq hiq
       cases hcl2:Dw E (pr.map (·.2)) ops x y with
       |false=>rfl
       |true=>
        have:=d2 k i x y hki (by simp[KK,hiq]) hx hy hcl2 (fun k=>listed.getD k false=true) hcl hed'
        exact (hnot hkR this).elim) hst
     refine ⟨st',stn,s1,?_,hgd⟩
     rw[AEX hiq,e,T6]
     ·exact s2
     ·intro h
      have hr:=hpw.2.2 i h i List.mem_cons_self
      have:=hr.1 hiq hiq
      omega
     ·intro h
      have hr:=(List.pairwise_cons.1 hpw.2.1).1 i h
      have:=hr.1 hiq hiq
      omega
    obtain ⟨st',_,s1,_,_⟩:=front q List.mem_cons_self hqR (fun e=>hiq e.symm)
    refine Lp hE hg h0 hy s1 hs fun a' w' hs'=>?_
    refine ih _ hlen _ st' a' w' (by simpa using hsz) hR' hmem' hcl' hqR' (fun p hp hpR=>?_) hs'
    have hpR:=List.mem_filter.1 hpR
    obtain ⟨st2,stn,s3,s4,s5⟩:=front p hp hpR.1 (by simpa using hpR.2)
    rw[s1] at s3;cases s3
    exact ⟨stn,s4,s5⟩
theorem AAE (hE:TabOK V E) (hg:Γ.gb=V.gb) (h0:V.G Γ.w) {q:Nat} {ps:List Nat} (hc:Hi E (pr.map (·.2)) q ps ops=true) {good:St->Prop} {Q:Exit->Act->World->Prop} (hQ:∀ stn,good stn->∀ a w,BC Γ stn a w->Q .normal a w) {id:Nat} {st:St} {a:Act} {w:World}
 (h:∀ p∈q::ps,∃ stn,C3 E pr ops (D5 q p (List.range ops.size)) st=some stn/\good stn) (hs:BC Γ st a w):(Code.region id ops true).wpIn (FR ro) 0 V.P Q a w:=by
 refine wpIn_region_any V.mixed ?_
 have hl:(List.range ops.size).length=ops.size:=List.length_range
 have hq:q < ops.size:=by
  simp only[Hi,qY0,decide_eq_true_eq] at hc
  exact hc.1.1.1.2
 have:=AG5 (ro:=ro) hE hg h0 hc (good:=good) (Q:=Q) hQ (List.range ops.size) (Array.replicate ops.size false) st a { w with drawn:=w.drawn+1 } (by simp) List.pairwise_lt_range (fun i=>by
  rw[List.mem_range]
  constructor
  ·intro hi;exact ⟨hi,by simp[hi]⟩
  ·exact fun h=>h.1) (fun k o ho hk=>by
   have:=(Array.getElem?_eq_some_iff.1 ho).1
   simp[this] at hk) (List.mem_range.2 hq) (fun p hp _=>h p hp) (by
   obtain ⟨β,hb⟩:=hs
   exact ⟨β,hb.ext (Ext.drew w)⟩)
 rw[hl] at this
 exact this
def Ir (ops:Array Oper):List Nat->List Oper
 |[]=>[]
 |i::r=>match ops[i]? with
  |some o=>o::Ir ops r
  |none=>Ir ops r
theorem Sj {ρ:Type} {K:St->Option ρ} {z:ρ}:∀ (R:List Nat) (st:St),(∀ i∈R,i < ops.size)->CM E true pr ops (Ir ops R) st K=some z->∃ stn,C3 E pr ops R st=some stn/\K stn=some z
 |[],st,_,h=>⟨st,rfl,h⟩
 |i::R,st,hR,h=>by
  have hi:=Array.getElem?_eq_getElem (hR i List.mem_cons_self)
  simp only[Ir,hi] at h
  obtain ⟨st',h1,h2⟩:=OJ h
  obtain ⟨stn,h3,h4⟩:=Sj R st' (fun j hj=>hR j (qY13 _ hj)) h2
  exact ⟨stn,by simp only[C3,hi,h1,Option.bind_some,h3],h4⟩
noncomputable def Ny (A0 A1:Ann) (g:Au A0.ps->Option (Au A1.ps)):LoopO:=⟨fun _ st K=>(C' A0 (C1 A0 st)).bind fun x=>(g x).bind fun y=>K .normal (encSt A1 y)⟩
theorem ZQ {A0 A1:Ann} {g:Au A0.ps->Option (Au A1.ps)} {c:Code} {id rid q:Nat} {ps:List Nat} (hE:TabOK V E) (hp:pick id (Bf c)=.region rid ops true) (hc:Hi E ((Nv E.pr rid).map (·.2)) q ps ops=true)
 (hall:∀ p∈q::ps,∀ x,CM E true (He E rid (encSt A0 x)) ops (Ir ops (D5 q p (List.range ops.size))) (encSt A0 x) (fun st=>C' A1 (C1 A1 st))=g x):(LE.raw id (Ny A0 A1 g)).OK V E c:=fun Γ ro hg h0 _ _=>by
 rw[hp]
 intro ρ st K z h a w hs Q hQ
 simp only[Ny] at h
 obtain ⟨x,hx,h⟩:=Ae h
 obtain ⟨y,hy,h⟩:=Ae h
 have hs0:=EN hx (EP A0 hs)
 have hq:q∈List.range ops.size:=by
  simp only[Hi,qY0,decide_eq_true_eq] at hc
  exact List.mem_range.2 hc.1.1.1.2
 refine AAE (pr:=He E rid (encSt A0 x)) hE hg h0 (q:=q) (ps:=ps) (by rw[<-hc];simp[He];rfl) (good:=fun st=>C' A1 (C1 A1 st)=some y) (fun stn hgd a' w' hs'=>?_) (fun p hp'=>?_) hs0
 ·exact hQ .normal _ _ _ (EN hgd (EP A1 hs')) h
 ·have:=hall p hp' x
  rw[hy] at this
  exact Sj _ _ (fun i hi=>List.mem_range.1 ((Oz hq).1 hi)) this
end
end Go.AM
end
section
namespace Go.AM.Num
def strings_Cut (s sep:qBs):Option ((qBs×qBs×Bool×Unit)×Unit):=
 if s.length < 4294967281 then some (((Lib.cut s sep).1,(Lib.cut s sep).2.1,(Lib.cut s sep).2.2,()),()) else none
def strings_CutPrefix (s p:qBs):Option ((qBs×Bool×Unit)×Unit):=some ((Lib.trimPrefix s p,Lib.hasPrefix s p,()),())
def MO:Callee:=⟨[.val .str,.val .str],[.val .str,.val .str,.val .bool],fun x=>strings_Cut x.1 x.2.1⟩
def Oh:Callee:=⟨[.val .str,.val .str],[.val .str,.val .bool],fun x=>strings_CutPrefix x.1 x.2.1⟩
def strings_Repeat (s:qBs) (n:Int):Option ((qBs×Unit)×Unit):=
 if 0<=n/\n<=9223372036854775807/\s.length * n.toNat<=140737488355328 then some ((Lib.repeatL s n.toNat,()),()) else none
def M9:Callee:=⟨[.val .str,.val (.int .i64)],[.val .str],fun x=>strings_Repeat x.1 x.2.1⟩
def Du (n:Int):Prop:=-9223372036854775808<=n/\n<=9223372036854775807
instance (n:Int):Decidable (Du n):=by unfold Du;infer_instance
def Ip (n b:Int):Option ((qBs×Unit)×Unit):=if Du n/\b=10 then some ((Lib.itoa n,()),()) else none
def Nn:Callee:=⟨[.val (.int .i64),.val (.int .i64)],[.val .str],fun x=>Ip x.1 x.2.1⟩
def I6 (s cut:qBs):Option ((qBs×Unit)×Unit):=
 if s.length<=9223372036854775807/\cut.length < 4294967281/\cut.all (fun b=>decide (b.toNat < 128))=true then some ((Lib.trimS s cut,()),()) else none
def Np:Callee:=⟨[.val .str,.val .str],[.val .str],fun x=>I6 x.1 x.2.1⟩
def strings_IndexByte (s:qBs) (c:Int):Option ((Int×Unit)×Unit):=some ((Lib.indexByte s c.toNat.toUInt8,()),())
def NS:Callee:=⟨[.val .str,.val (.int .u8)],[.val (.int .i64)],fun x=>strings_IndexByte x.1 x.2.1⟩
def Lm (n b:Int):Option ((qBs×Unit)×Unit):=if 0<=n/\n<=18446744073709551615/\b=10 then some ((Lib.decDigits n.toNat,()),()) else none
def MJ:Callee:=⟨[.val (.int .u64),.val (.int .i64)],[.val .str],fun x=>Lm x.1 x.2.1⟩
def F4 (s:qBs) (b w:Int):Option ((Int×Bool×Unit)×Unit):=
 if b=10/\w=64/\s.length<=281474976710656 then
  match Lib.parseIntB 64 s with
  |.ok v=>some ((v,false,()),())
  |_=>none
 else none
def Mf:Callee:=⟨[.val .str,.val (.int .i64),.val (.int .i64)],[.val (.int .i64),.val .err],fun x=>F4 x.1 x.2.1 x.2.2.1⟩
def JB (b:Unit×List Int):Option ((qBs×Unit)×Unit):=Ab (decide (0 < b.2.length)) (some ((b.2.map fun n=>UInt8.ofNat n.toNat,()),()))
def PL:Callee:=⟨[.obj (.box (.pair .slf (.own (.int .u8))))],[.val .str],fun x=>JB x.1⟩
def Od (b:Unit×List Int):Option (Unit×((Unit×List Int)×Unit)):=some ((),(b,()))
def Pl:Callee:=⟨[.box (.pair .slf (.own (.int .u8)))],[],fun x=>Od x.1⟩
end Go.AM.Num
end
