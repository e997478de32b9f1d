/- Law ValueArrays of the values: its row and its card. No condition beyond what the statement says. -/
import Derived.Test.YtmckcoeongfmhaaGreatDoorValueArrays6
set_option linter.unusedSimpArgs false
set_option linter.unusedVariables false
section
set_option linter.unusedVariables false
namespace Go.Proofs.YtmckcoeongfmhaaGreatDoor.valueArrays
open Go.ChangeShapes Go.WideShapes Go.ChangeAt Go.RowKit Go.AM Go.AM.Num
open Go.ChangeMaps (open_string shut_string)
theorem qCS:Go.AM.Good VN 9 qSP:=(g154 f0).all 9 [] _ (by kernel_rfl)
theorem qFv (os:Os) {H:Type} (enc:TypeId×Value->H):∃ places,DataW.whole enc Tryz.prog ((qEP os).forCall (fun _ _=>0) ⟨#[],#[.agg #[.int .i64 0,.bool false,.string ByteArray.empty,.slice none 0 0,.slice none 0 0],.string ByteArray.empty,.string ByteArray.empty,.slice none 0 0,.slice none 0 0],[]⟩).memory Tryz.f9.params.toList Rows.valueArraysSpec.vars false (#[.agg #[.int .i64 0,.bool false,.string ByteArray.empty,.slice none 0 0,.slice none 0 0],.string ByteArray.empty,.string ByteArray.empty,.slice none 0 0,.slice none 0 0]:Array Value).toList 8=some ([.agg [.lit (.int .i64 0),.lit (.bool false),.lit (.string []),.nil,.nil],.lit (.string []),.lit (.string []),.nil,.nil],[],places):=
 ⟨[],by kernel_rfl⟩
set_option maxRecDepth 100000 in
theorem qSaf (os:Os) (started:os.Started) (H:Type) (enc:TypeId×Value->H) (F:Stop.Interp) :
 ReturnsInHanded {} Tryz.checked os 9 .any ((OpenSpec.ofChange Rows.valueArraysSpec).preRow enc Tryz.prog Tryz.f9 Rows.valueArraysRow.domain false Rows.valueArraysRow.laid) (((OpenSpec.ofChange Rows.valueArraysSpec).at F).post enc Tryz.prog Tryz.f9 false true false false):=by
 obtain ⟨places,hx⟩:=qFv os enc
 refine returnsInHanded_of_row (C:=Tryz.checked) (s:=OpenSpec.ofChange Rows.valueArraysSpec) Num.own started (by kernel_rfl) Tryz.func9
  (witness_row_atRef (enc:=enc) (C:=Tryz.checked) false (qEP os) #[.agg #[.int .i64 0,.bool false,.string ByteArray.empty,.slice none 0 0,.slice none 0 0],.string ByteArray.empty,.string ByteArray.empty,.slice none 0 0,.slice none 0 0] rfl (qCx os _) (qKv os _) (by kernel_rfl)
   (OpenSpec.preRow_of_cond 8 hx (by kernel_rfl) (fun k hk=>by cases hk) (by kernel_rfl) (qRw os _))) ?_
 intro W base args ds gs before hval0 hW _ _ _ hL hsh _
 have hval:∀ (j:Nat) t v,Tryz.f9.params[j]?=some t->args[j]?=some v->Value.okWide Tryz.prog W .any base t v:=hval0
 have hW':=hW
 obtain ⟨p,q,hA0,hV,rfl,hfz,hnd⟩:=hW
 have hA:DataW.TrodAll enc Tryz.prog W 0 (fun _=>true) true Tryz.f9.params.toList args.toList ds p:=hA0
 rw[Tryz.params9] at hA hval
 obtain ⟨v0,vs0,d0,ds0,p0,q0,hargs,rfl,rfl,h0,r0⟩:=trodAll_cons hA
 obtain ⟨v1,vs1,d1,ds1,p1,q1,rfl,rfl,rfl,h1,r1⟩:=trodAll_cons r0
 obtain ⟨v2,vs2,d2,ds2,p2,q2,rfl,rfl,rfl,h2,r2⟩:=trodAll_cons r1
 obtain ⟨v3,vs3,d3,ds3,p3,q3,rfl,rfl,rfl,h3,r3⟩:=trodAll_cons r2
 obtain ⟨v4,vs4,d4,ds4,p4,q4,rfl,rfl,rfl,h4,r4⟩:=trodAll_cons r3
 obtain ⟨rfl,rfl,rfl⟩:=trodAll_nil r4
 obtain rfl:args=#[v0,v1,v2,v3,v4]:=by cases args;simp_all
 obtain ⟨rfl,rfl⟩:=trodVars_none hV
 obtain ⟨a0,rfl⟩:=qLn Tryz.underlying24 (hval 0 24 v0 rfl rfl)
 have k0:=h0
 have lt0:∀ x∈p0,x.block < W.heap.size:=by obtain ⟨m,hm⟩:=k0;exact DataW.trod_lt m _ _ _ hm
 obtain ⟨l0,b0,tv0⟩:=qQae qSad h0 rfl
 obtain ⟨a1,rfl,rfl,rfl,y1⟩:=open_string Tryz.underlying9 (hval 1 9 v1 rfl rfl) h1
 obtain ⟨a2,rfl,rfl,rfl,y2⟩:=open_string Tryz.underlying9 (hval 2 9 v2 rfl rfl) h2
 obtain ⟨a3,len3,cap3,rfl⟩:=okWide_slice Tryz.underlying25 (hval 3 25 v3 rfl rfl)
 have k3:=h3
 have lt3:∀ x∈p3,x.block < W.heap.size:=by obtain ⟨m,hm⟩:=k3;exact DataW.trod_lt m _ _ _ hm
 obtain ⟨l3,rfl,hm3,hw3,tv3⟩:=qXp Tryz.underlying25 Tryz.underlying3 (by kernel_rfl) h3
 obtain ⟨a4,len4,cap4,rfl⟩:=okWide_slice Tryz.underlying25 (hval 4 25 v4 rfl rfl)
 have k4:=h4
 have lt4:∀ x∈p4,x.block < W.heap.size:=by obtain ⟨m,hm⟩:=k4;exact DataW.trod_lt m _ _ _ hm
 obtain ⟨l4,rfl,hm4,hw4,tv4⟩:=qXp Tryz.underlying25 Tryz.underlying3 (by kernel_rfl) h4
 clear hA0 hval0
 have hp:=qSc l0 b0 a1.data.toList (qOac y1) a2.data.toList (qOac y2) l3 (qJaf hm3 hw3) l4 (qJaf hm4 hw4)
 refine (qVp (qCS) (l0,a1.data.toList,a2.data.toList,l3,l4,()) rfl rfl () hp W (qVag hL hsh) #[.agg a0,.string a1,.string a2,.slice a3 l3.length cap3,.slice a4 l4.length cap4] (qCZ (qAU tv0) (qCZ (qGaa _) (qCZ (qGaa _) (qCZ (qAU tv3) (qCZ (qAU tv4) qMaf)))))).mono fun e W' ⟨he,bel⟩=>?_
 subst he
 exact ⟨_,rfl,_,_,_,[],_,[],hW',trodAll_mk1 (shut_bool Tryz.underlying4 _),(trodAll_cons_mk (Below.trod qHj (by kernel_rfl) (of_decide_eq_true (by kernel_rfl)) k0 bel lt0) (trodAll_cons_mk (shut_string Tryz.underlying9 y1) (trodAll_cons_mk (shut_string Tryz.underlying9 y2) (trodAll_cons_mk (Below.trod qHj (by kernel_rfl) (of_decide_eq_true (by kernel_rfl)) k3 bel lt3) (trodAll_cons_mk (Below.trod qHj (by kernel_rfl) (of_decide_eq_true (by kernel_rfl)) k4 bel lt4) trodAll_mk0))))),rfl,bel.frame _,fun h=>by cases h⟩
set_option maxHeartbeats 0 in
set_option maxRecDepth 100000 in
theorem qPae:joinedFacts Tryz.pinned.checked.prog 9 Tryz.f9 (OpenSpec.ofChange Rows.valueArraysSpec).bare Rows.valueArraysRow=true:=by
 unfold joinedFacts
 simp only[qY0]
 repeat' (apply And.intro)
 all_goals decide +kernel
theorem said:Rows.ValueArraysSaid:=
 OpenClaim.holds_of_cond 9 Tryz.f9 rfl rfl rfl rfl rfl rfl rfl ⟨rfl,rfl,rfl,rfl,rfl⟩ rfl rfl rfl rfl rfl (by kernel_rfl) Tryz.func9 qPae
  (of_decide_eq_true (by kernel_rfl)) (by unfold Func.isWrapper;first | (rw[if_pos (by decide +kernel)];kernel_rfl) | (rw[if_neg (by decide +kernel)];exact ⟨rfl,rfl⟩))
  (fun os started H enc _ F=>by rw[OpenClaim.pre_eq_preRow];exact qSaf os started H enc F)
theorem plain (f : FuncId) (fn : Func) (hf : Tryz.pinned.checked.prog.funcNamed "chcsolver/chcsolverlaw04.ValueArrays" = some f) (hfn : Tryz.pinned.checked.prog.funcs[f]? = some fn) :
 true=Tryz.pinned.checked.prog.looks []/\∀ (j:Nat) t,fn.params[j]?=some t->Tryz.pinned.checked.prog.wantsStandIn t=false:=by
 obtain rfl : f = 9 := Option.some.inj ((show Tryz.prog.funcNamed "chcsolver/chcsolverlaw04.ValueArrays" = some 9 by kernel_rfl).symm.trans hf) |>.symm
 obtain rfl:fn=Tryz.f9:=(Option.some.inj (Tryz.func9.symm.trans hfn)).symm
 refine ⟨by kernel_rfl,fun j t ht=>?_⟩
 rw[Tryz.params9] at ht
 have hm:t∈[24,9,9,25,25]:=by simpa using Array.mem_of_getElem? ht
 simp only[qY12,List.mem_nil_iff,or_false] at hm
 rcases hm with rfl | rfl | rfl | rfl | rfl
 ·exact (show Tryz.prog.wantsStandIn 24=false by kernel_rfl)
 ·exact (show Tryz.prog.wantsStandIn 9=false by kernel_rfl)
 ·exact (show Tryz.prog.wantsStandIn 9=false by kernel_rfl)
 ·exact (show Tryz.prog.wantsStandIn 25=false by kernel_rfl)
 ·exact (show Tryz.prog.wantsStandIn 25=false by kernel_rfl)
end Go.Proofs.YtmckcoeongfmhaaGreatDoor.valueArrays
namespace Go.Proofs.YtmckcoeongfmhaaGreatDoor
theorem valueArrays_holds:Rows.ValueArraysCardSaid:=
 Claim7.holds_tied_plain_at .later [] _ _ _ _ valueArrays.said (fun _ h=>by cases h) (by decide +kernel) (fun _ h=>by cases h) valueArrays_row_tie rfl ⟨rfl,rfl⟩ (by decide +kernel) rfl valueArrays.plain (by decide +kernel)
end Go.Proofs.YtmckcoeongfmhaaGreatDoor
end
