/- Law TermCompare: its row and its card. No conditions. -/
import Derived.Test.YtppjkoefhkcjfaaGreatDoorTermCompare6
set_option linter.unusedSimpArgs false
set_option linter.unusedVariables false
section
namespace Go.Proofs.YtppjkoefhkcjfaaGreatDoor.termCompare
open Go.ChangeShapes Go.WideShapes Go.ChangeAt Go.RowKit Go.AM Go.AM.Num
open Go.ChangeMaps (open_string shut_string)
theorem ABr:Go.AM.Good VN 7 Om:=(Xz f0).all 7 [] _ (by kernel_rfl)
theorem IJ (os:Os) {H:Type} (enc:TypeId×Value->H):∃ places,DataW.whole enc Tryz.prog ((HU os).forCall (fun _ _=>0) ⟨#[],#[.slice none 0 0,.slice none 0 0,.slice none 0 0,.slice none 0 0,.slice none 0 0],[]⟩).memory Tryz.f7.params.toList Rows.termCompareSpec.vars false (#[.slice none 0 0,.slice none 0 0,.slice none 0 0,.slice none 0 0,.slice none 0 0]:Array Value).toList 8=some ([.nil,.nil,.nil,.nil,.nil],[],places):=
 ⟨[],by kernel_rfl⟩
set_option maxRecDepth 100000 in
theorem AAI (os:Os) (started:os.Started) (H:Type) (enc:TypeId×Value->H) (F:Stop.Interp) :
 ReturnsInHanded {} Tryz.checked os 7 .any ((OpenSpec.ofChange Rows.termCompareSpec).preRow enc Tryz.prog Tryz.f7 Rows.termCompareRow.domain false Rows.termCompareRow.laid) (((OpenSpec.ofChange Rows.termCompareSpec).at F).post enc Tryz.prog Tryz.f7 false true false false):=by
 obtain ⟨places,hx⟩:=IJ os enc
 refine returnsInHanded_of_row (C:=Tryz.checked) (s:=OpenSpec.ofChange Rows.termCompareSpec) Num.own started (by kernel_rfl) Tryz.func7
  (witness_row_atRef (enc:=enc) (C:=Tryz.checked) false (HU os) #[.slice none 0 0,.slice none 0 0,.slice none 0 0,.slice none 0 0,.slice none 0 0] rfl (ABv os _) (W0 os _) (by kernel_rfl)
   (OpenSpec.preRow_of_cond 8 hx (by kernel_rfl) (fun k hk=>by cases hk) (by kernel_rfl) (AEJ os _))) ?_
 intro W base args ds gs before hval0 hW _ _ _ hL hsh _
 have hval:∀ (j:Nat) t v,Tryz.f7.params[j]?=some t->args[j]?=some v->Value.okWide Tryz.prog W .any base t v:=hval0
 have hW':=hW
 obtain ⟨p,q,hA0,hV,rfl,hfz,hnd⟩:=hW
 have hA:DataW.TrodAll enc Tryz.prog W 0 (fun _=>true) true Tryz.f7.params.toList args.toList ds p:=hA0
 rw[Tryz.params7] at hA hval
 obtain ⟨v0,vs0,d0,ds0,p0,q0,hargs,rfl,rfl,h0,r0⟩:=trodAll_cons hA
 obtain ⟨v1,vs1,d1,ds1,p1,q1,rfl,rfl,rfl,h1,r1⟩:=trodAll_cons r0
 obtain ⟨v2,vs2,d2,ds2,p2,q2,rfl,rfl,rfl,h2,r2⟩:=trodAll_cons r1
 obtain ⟨v3,vs3,d3,ds3,p3,q3,rfl,rfl,rfl,h3,r3⟩:=trodAll_cons r2
 obtain ⟨v4,vs4,d4,ds4,p4,q4,rfl,rfl,rfl,h4,r4⟩:=trodAll_cons r3
 obtain ⟨rfl,rfl,rfl⟩:=trodAll_nil r4
 obtain rfl:args=#[v0,v1,v2,v3,v4]:=by cases args;simp_all
 obtain ⟨rfl,rfl⟩:=trodVars_none hV
 obtain ⟨a0,len0,cap0,rfl⟩:=okWide_slice Tryz.underlying30 (hval 0 30 v0 rfl rfl)
 have k0:=h0
 have lt0:∀ x∈p0,x.block < W.heap.size:=by obtain ⟨m,hm⟩:=k0;exact DataW.trod_lt m _ _ _ hm
 obtain ⟨l0,b0,tv0⟩:=Sr Tm h0 rfl rfl
 obtain ⟨a1,len1,cap1,rfl⟩:=okWide_slice Tryz.underlying30 (hval 1 30 v1 rfl rfl)
 have k1:=h1
 have lt1:∀ x∈p1,x.block < W.heap.size:=by obtain ⟨m,hm⟩:=k1;exact DataW.trod_lt m _ _ _ hm
 obtain ⟨l1,b1,tv1⟩:=Sr Tm h1 rfl rfl
 obtain ⟨a2,len2,cap2,rfl⟩:=okWide_slice Tryz.underlying29 (hval 2 29 v2 rfl rfl)
 have k2:=h2
 have lt2:∀ x∈p2,x.block < W.heap.size:=by obtain ⟨m,hm⟩:=k2;exact DataW.trod_lt m _ _ _ hm
 obtain ⟨l2,rfl,hm2,hw2,tv2⟩:=Nc Tryz.underlying29 Tryz.underlying3 (by kernel_rfl) h2
 obtain ⟨a3,len3,cap3,rfl⟩:=okWide_slice Tryz.underlying29 (hval 3 29 v3 rfl rfl)
 have k3:=h3
 have lt3:∀ x∈p3,x.block < W.heap.size:=by obtain ⟨m,hm⟩:=k3;exact DataW.trod_lt m _ _ _ hm
 obtain ⟨l3,rfl,hm3,hw3,tv3⟩:=Nc Tryz.underlying29 Tryz.underlying3 (by kernel_rfl) h3
 obtain ⟨a4,len4,cap4,rfl⟩:=okWide_slice Tryz.underlying29 (hval 4 29 v4 rfl rfl)
 have k4:=h4
 have lt4:∀ x∈p4,x.block < W.heap.size:=by obtain ⟨m,hm⟩:=k4;exact DataW.trod_lt m _ _ _ hm
 obtain ⟨l4,rfl,hm4,hw4,tv4⟩:=Nc Tryz.underlying29 Tryz.underlying3 (by kernel_rfl) h4
 clear hA0 hval0
 have hp:=ACs l0 b0 l1 b1 l2 (L5 hm2 hw2) l3 (L5 hm3 hw3) l4 (L5 hm4 hw4)
 refine (AE9 (ABr) (l0,l1,l2,l3,l4,()) rfl rfl () hp W (U2 hL hsh) #[.slice a0 len0 cap0,.slice a1 len1 cap1,.slice a2 l2.length cap2,.slice a3 l3.length cap3,.slice a4 l4.length cap4] (H6 (Dt tv0) (H6 (Dt tv1) (H6 (Dt tv2) (H6 (Dt tv3) (H6 (Dt tv4) ABq)))))).mono fun e W' ⟨he,bel⟩=>?_
 subst he
 exact ⟨_,rfl,_,_,_,[],_,[],hW',trodAll_mk1 (shut_bool Tryz.underlying4 _),(trodAll_cons_mk (Below.trod IQ (by kernel_rfl) (of_decide_eq_true (by kernel_rfl)) k0 bel lt0) (trodAll_cons_mk (Below.trod IQ (by kernel_rfl) (of_decide_eq_true (by kernel_rfl)) k1 bel lt1) (trodAll_cons_mk (Below.trod IQ (by kernel_rfl) (of_decide_eq_true (by kernel_rfl)) k2 bel lt2) (trodAll_cons_mk (Below.trod IQ (by kernel_rfl) (of_decide_eq_true (by kernel_rfl)) k3 bel lt3) (trodAll_cons_mk (Below.trod IQ (by kernel_rfl) (of_decide_eq_true (by kernel_rfl)) k4 bel lt4) trodAll_mk0))))),rfl,bel.frame _,fun h=>by cases h⟩
set_option maxHeartbeats 0 in
set_option maxRecDepth 100000 in
theorem ZV:joinedFacts Tryz.pinned.checked.prog 7 Tryz.f7 (OpenSpec.ofChange Rows.termCompareSpec).bare Rows.termCompareRow=true:=by
 unfold joinedFacts
 simp only[qY0]
 repeat' (apply And.intro)
 all_goals decide +kernel
theorem said:Rows.TermCompareSaid:=
 OpenClaim.holds_of_cond 7 Tryz.f7 rfl rfl rfl rfl rfl rfl rfl ⟨rfl,rfl,rfl,rfl,rfl⟩ rfl rfl rfl rfl rfl (by kernel_rfl) Tryz.func7 ZV
  (of_decide_eq_true (by kernel_rfl)) (by unfold Func.isWrapper;first | (rw[if_pos (by decide +kernel)];kernel_rfl) | (rw[if_neg (by decide +kernel)];exact ⟨rfl,rfl⟩))
  (fun os started H enc _ F=>by rw[OpenClaim.pre_eq_preRow];exact AAI os started H enc F)
theorem plain (f : FuncId) (fn : Func) (hf : Tryz.pinned.checked.prog.funcNamed "chcsolver/chcsolverlaw03.TermCompare" = some f) (hfn : Tryz.pinned.checked.prog.funcs[f]? = some fn) :
 true=Tryz.pinned.checked.prog.looks []/\∀ (j:Nat) t,fn.params[j]?=some t->Tryz.pinned.checked.prog.wantsStandIn t=false:=by
 obtain rfl : f = 7 := Option.some.inj ((show Tryz.prog.funcNamed "chcsolver/chcsolverlaw03.TermCompare" = some 7 by kernel_rfl).symm.trans hf) |>.symm
 obtain rfl:fn=Tryz.f7:=(Option.some.inj (Tryz.func7.symm.trans hfn)).symm
 refine ⟨by kernel_rfl,fun j t ht=>?_⟩
 rw[Tryz.params7] at ht
 have hm:t∈[30,30,29,29,29]:=by simpa using Array.mem_of_getElem? ht
 simp only[qY12,List.mem_nil_iff,or_false] at hm
 rcases hm with rfl | rfl | rfl | rfl | rfl
 ·exact (show Tryz.prog.wantsStandIn 30=false by kernel_rfl)
 ·exact (show Tryz.prog.wantsStandIn 30=false by kernel_rfl)
 ·exact (show Tryz.prog.wantsStandIn 29=false by kernel_rfl)
 ·exact (show Tryz.prog.wantsStandIn 29=false by kernel_rfl)
 ·exact (show Tryz.prog.wantsStandIn 29=false by kernel_rfl)
end Go.Proofs.YtppjkoefhkcjfaaGreatDoor.termCompare
namespace Go.Proofs.YtppjkoefhkcjfaaGreatDoor
theorem termCompare_holds:Rows.TermCompareCardSaid:=
 Claim7.holds_tied_plain_at .later [] _ _ _ _ termCompare.said (fun _ h=>by cases h) (by decide +kernel) (fun _ h=>by cases h) termCompare_row_tie rfl ⟨rfl,rfl⟩ (by decide +kernel) rfl termCompare.plain (by decide +kernel)
end Go.Proofs.YtppjkoefhkcjfaaGreatDoor
end
