/- Law ValueSorts of the values: its row and its card. No condition beyond what the statement says. -/
import Derived.Test.YtmckcoeongfmhaaGreatDoorValueSorts7
set_option linter.unusedSimpArgs false
set_option linter.unusedVariables false
section
set_option linter.unusedVariables false
namespace Go.Proofs.YtmckcoeongfmhaaGreatDoor.valueSorts
open Go.ChangeShapes Go.WideShapes Go.ChangeAt Go.RowKit Go.AM Go.AM.Num
open Go.ChangeMaps (open_string shut_string)
theorem qQX:Go.AM.Good VN 12 qVV:=(g178 f0).all 12 [] _ (by kernel_rfl)
theorem qEaf (os:Os) {H:Type} (enc:TypeId×Value->H):∃ places,DataW.whole enc Tryz.prog ((qHT os).forCall (fun _ _=>0) ⟨#[],#[.slice none 0 0,.slice none 0 0,.int .i64 0],[]⟩).memory Tryz.f12.params.toList Rows.valueSortsSpec.vars false (#[.slice none 0 0,.slice none 0 0,.int .i64 0]:Array Value).toList 8=some ([.nil,.nil,.lit (.int .i64 0)],[],places):=
 ⟨[],by kernel_rfl⟩
set_option maxRecDepth 100000 in
theorem qRap (os:Os) (started:os.Started) (H:Type) (enc:TypeId×Value->H) (F:Stop.Interp) :
 ReturnsInHanded {} Tryz.checked os 12 .any ((OpenSpec.ofChange Rows.valueSortsSpec).preRow enc Tryz.prog Tryz.f12 Rows.valueSortsRow.domain false Rows.valueSortsRow.laid) (((OpenSpec.ofChange Rows.valueSortsSpec).at F).post enc Tryz.prog Tryz.f12 false true false false):=by
 obtain ⟨places,hx⟩:=qEaf os enc
 refine returnsInHanded_of_row (C:=Tryz.checked) (s:=OpenSpec.ofChange Rows.valueSortsSpec) Num.own started (by kernel_rfl) Tryz.func12
  (witness_row_atRef (enc:=enc) (C:=Tryz.checked) false (qHT os) #[.slice none 0 0,.slice none 0 0,.int .i64 0] rfl (qFag os _) (qYab os _) (by kernel_rfl)
   (OpenSpec.preRow_of_cond 8 hx (by kernel_rfl) (fun k hk=>by cases hk) (by kernel_rfl) (qZai os _))) ?_
 intro W base args ds gs before hval0 hW _ _ _ hL hsh _
 have hval:∀ (j:Nat) t v,Tryz.f12.params[j]?=some t->args[j]?=some v->Value.okWide Tryz.prog W .any base t v:=hval0
 have hW':=hW
 obtain ⟨p,q,hA0,hV,rfl,hfz,hnd⟩:=hW
 have hA:DataW.TrodAll enc Tryz.prog W 0 (fun _=>true) true Tryz.f12.params.toList args.toList ds p:=hA0
 rw[Tryz.params12] at hA hval
 obtain ⟨v0,vs0,d0,ds0,p0,q0,hargs,rfl,rfl,h0,r0⟩:=trodAll_cons hA
 obtain ⟨v1,vs1,d1,ds1,p1,q1,rfl,rfl,rfl,h1,r1⟩:=trodAll_cons r0
 obtain ⟨v2,vs2,d2,ds2,p2,q2,rfl,rfl,rfl,h2,r2⟩:=trodAll_cons r1
 obtain ⟨rfl,rfl,rfl⟩:=trodAll_nil r2
 obtain rfl:args=#[v0,v1,v2]:=by cases args;simp_all
 obtain ⟨rfl,rfl⟩:=trodVars_none hV
 obtain ⟨a0,len0,cap0,rfl⟩:=okWide_slice Tryz.underlying25 (hval 0 25 v0 rfl rfl)
 have k0:=h0
 have lt0:∀ x∈p0,x.block < W.heap.size:=by obtain ⟨m,hm⟩:=k0;exact DataW.trod_lt m _ _ _ hm
 obtain ⟨l0,rfl,hm0,hw0,tv0⟩:=qCac Tryz.underlying25 Tryz.underlying3 (by kernel_rfl) h0
 obtain ⟨a1,len1,cap1,rfl⟩:=okWide_slice Tryz.underlying25 (hval 1 25 v1 rfl rfl)
 have k1:=h1
 have lt1:∀ x∈p1,x.block < W.heap.size:=by obtain ⟨m,hm⟩:=k1;exact DataW.trod_lt m _ _ _ hm
 obtain ⟨l1,rfl,hm1,hw1,tv1⟩:=qCac Tryz.underlying25 Tryz.underlying3 (by kernel_rfl) h1
 obtain ⟨a2,rfl,rfl,rfl,w2⟩:=open_int Tryz.underlying3 (hval 2 3 v2 rfl rfl) h2
 clear hA0 hval0
 have hp:=qEo l0 (qXap hm0 hw0) l1 (qXap hm1 hw1) a2 (qLaf w2)
 refine (qAac (qQX) (l0,l1,a2,()) rfl rfl () hp W (qNas hL hsh) #[.slice a0 l0.length cap0,.slice a1 l1.length cap1,.int .i64 a2] (qCs (qWb tv0) (qCs (qWb tv1) (qCs (qQaq _) qLar)))).mono fun e W' ⟨he,bel⟩=>?_
 subst he
 exact ⟨_,rfl,_,_,_,[],_,[],hW',trodAll_mk1 (shut_bool Tryz.underlying4 _),(trodAll_cons_mk (Below.trod qZad (by kernel_rfl) (of_decide_eq_true (by kernel_rfl)) k0 bel lt0) (trodAll_cons_mk (Below.trod qZad (by kernel_rfl) (of_decide_eq_true (by kernel_rfl)) k1 bel lt1) (trodAll_cons_mk (shut_int Tryz.underlying3 w2) trodAll_mk0))),rfl,bel.frame _,fun h=>by cases h⟩
set_option maxHeartbeats 0 in
set_option maxRecDepth 100000 in
theorem qJar:joinedFacts Tryz.pinned.checked.prog 12 Tryz.f12 (OpenSpec.ofChange Rows.valueSortsSpec).bare Rows.valueSortsRow=true:=by
 unfold joinedFacts
 simp only[qY0]
 repeat' (apply And.intro)
 all_goals decide +kernel
theorem said:Rows.ValueSortsSaid:=
 OpenClaim.holds_of_cond 12 Tryz.f12 rfl rfl rfl rfl rfl rfl rfl ⟨rfl,rfl,rfl,rfl,rfl⟩ rfl rfl rfl rfl rfl (by kernel_rfl) Tryz.func12 qJar
  (of_decide_eq_true (by kernel_rfl)) (by unfold Func.isWrapper;first | (rw[if_pos (by decide +kernel)];kernel_rfl) | (rw[if_neg (by decide +kernel)];exact ⟨rfl,rfl⟩))
  (fun os started H enc _ F=>by rw[OpenClaim.pre_eq_preRow];exact qRap os started H enc F)
theorem plain (f : FuncId) (fn : Func) (hf : Tryz.pinned.checked.prog.funcNamed "chcsolver/chcsolverlaw04.ValueSorts" = some f) (hfn : Tryz.pinned.checked.prog.funcs[f]? = some fn) :
 true=Tryz.pinned.checked.prog.looks []/\∀ (j:Nat) t,fn.params[j]?=some t->Tryz.pinned.checked.prog.wantsStandIn t=false:=by
 obtain rfl : f = 12 := Option.some.inj ((show Tryz.prog.funcNamed "chcsolver/chcsolverlaw04.ValueSorts" = some 12 by kernel_rfl).symm.trans hf) |>.symm
 obtain rfl:fn=Tryz.f12:=(Option.some.inj (Tryz.func12.symm.trans hfn)).symm
 refine ⟨by kernel_rfl,fun j t ht=>?_⟩
 rw[Tryz.params12] at ht
 have hm:t∈[25,25,3]:=by simpa using Array.mem_of_getElem? ht
 simp only[qY12,List.mem_nil_iff,or_false] at hm
 rcases hm with rfl | rfl | rfl
 ·exact (show Tryz.prog.wantsStandIn 25=false by kernel_rfl)
 ·exact (show Tryz.prog.wantsStandIn 25=false by kernel_rfl)
 ·exact (show Tryz.prog.wantsStandIn 3=false by kernel_rfl)
end Go.Proofs.YtmckcoeongfmhaaGreatDoor.valueSorts
namespace Go.Proofs.YtmckcoeongfmhaaGreatDoor
theorem valueSorts_holds:Rows.ValueSortsCardSaid:=
 Claim7.holds_tied_plain_at .later [] _ _ _ _ valueSorts.said (fun _ h=>by cases h) (by decide +kernel) (fun _ h=>by cases h) valueSorts_row_tie rfl ⟨rfl,rfl⟩ (by decide +kernel) rfl valueSorts.plain (by decide +kernel)
end Go.Proofs.YtmckcoeongfmhaaGreatDoor
end
