/- Law ValueFunctions: its row and its card. No conditions. -/
import Derived.Test.YtcpdjngcofhljaaGreatDoorValueFunctions8
set_option linter.unusedSimpArgs false
set_option linter.unusedVariables false
section
namespace Go.Proofs.YtcpdjngcofhljaaGreatDoor.valueFunctions
open Go.ChangeShapes Go.WideShapes Go.ChangeAt Go.RowKit Go.AM Go.AM.Num
open Go.ChangeMaps (open_string shut_string)
theorem AEd:Go.AM.Good VN 4 X9:=(AEs f0).all 4 [] _ (by kernel_rfl)
theorem KU (os:Os) {H:Type} (enc:TypeId×Value->H):∃ places,DataW.whole enc Tryz.prog ((Ll os).forCall (fun _ _=>0) ⟨#[],#[.slice none 0 0,.slice none 0 0,.bool false],[]⟩).memory Tryz.f4.params.toList Rows.valueFunctionsSpec.vars false (#[.slice none 0 0,.slice none 0 0,.bool false]:Array Value).toList 8=some ([.nil,.nil,.lit (.bool false)],[],places):=
 ⟨[],by kernel_rfl⟩
set_option maxRecDepth 100000 in
theorem ALO (os:Os) (started:os.Started) (H:Type) (enc:TypeId×Value->H) (F:Stop.Interp) :
 ReturnsInHanded {} Tryz.checked os 4 .any ((OpenSpec.ofChange Rows.valueFunctionsSpec).preRow enc Tryz.prog Tryz.f4 Rows.valueFunctionsRow.domain false Rows.valueFunctionsRow.laid) (((OpenSpec.ofChange Rows.valueFunctionsSpec).at F).post enc Tryz.prog Tryz.f4 false true false false):=by
 obtain ⟨places,hx⟩:=KU os enc
 refine returnsInHanded_of_row (C:=Tryz.checked) (s:=OpenSpec.ofChange Rows.valueFunctionsSpec) Num.own started (by kernel_rfl) Tryz.func4
  (witness_row_atRef (enc:=enc) (C:=Tryz.checked) false (Ll os) #[.slice none 0 0,.slice none 0 0,.bool false] rfl (Zc os _) (AB4 os _) (by kernel_rfl)
   (OpenSpec.preRow_of_cond 8 hx (by kernel_rfl) (fun k hk=>by cases hk) (by kernel_rfl) (ACE os _))) ?_
 intro W base args ds gs before hval0 hW _ _ _ hL hsh _
 have hval:∀ (j:Nat) t v,Tryz.f4.params[j]?=some t->args[j]?=some v->Value.okWide Tryz.prog W .any base t v:=hval0
 have hW':=hW
 obtain ⟨p,q,hA0,hV,rfl,hfz,hnd⟩:=hW
 have hA:DataW.TrodAll enc Tryz.prog W 0 (fun _=>true) true Tryz.f4.params.toList args.toList ds p:=hA0
 rw[Tryz.params4] at hA hval
 obtain ⟨v0,vs0,d0,ds0,p0,q0,hargs,rfl,rfl,h0,r0⟩:=trodAll_cons hA
 obtain ⟨v1,vs1,d1,ds1,p1,q1,rfl,rfl,rfl,h1,r1⟩:=trodAll_cons r0
 obtain ⟨v2,vs2,d2,ds2,p2,q2,rfl,rfl,rfl,h2,r2⟩:=trodAll_cons r1
 obtain ⟨rfl,rfl,rfl⟩:=trodAll_nil r2
 obtain rfl:args=#[v0,v1,v2]:=by cases args;simp_all
 obtain ⟨rfl,rfl⟩:=trodVars_none hV
 obtain ⟨a0,len0,cap0,rfl⟩:=okWide_slice Tryz.underlying25 (hval 0 25 v0 rfl rfl)
 have k0:=h0
 have lt0:∀ x∈p0,x.block < W.heap.size:=by obtain ⟨m,hm⟩:=k0;exact DataW.trod_lt m _ _ _ hm
 obtain ⟨l0,rfl,hm0,hw0,tv0⟩:=VD Tryz.underlying25 Tryz.underlying3 (by kernel_rfl) h0
 obtain ⟨a1,len1,cap1,rfl⟩:=okWide_slice Tryz.underlying25 (hval 1 25 v1 rfl rfl)
 have k1:=h1
 have lt1:∀ x∈p1,x.block < W.heap.size:=by obtain ⟨m,hm⟩:=k1;exact DataW.trod_lt m _ _ _ hm
 obtain ⟨l1,rfl,hm1,hw1,tv1⟩:=VD Tryz.underlying25 Tryz.underlying3 (by kernel_rfl) h1
 obtain ⟨a2,rfl,rfl,rfl⟩:=open_bool Tryz.underlying4 (hval 2 4 v2 rfl rfl) h2
 clear hA0 hval0
 have hp:=AFA l0 (Tw hm0 hw0) l1 (Tw hm1 hw1) a2
 refine (AF7 (AEd) (l0,l1,a2,()) rfl rfl () hp W (Zz hL hsh) #[.slice a0 l0.length cap0,.slice a1 l1.length cap1,.bool a2] (RD (GY tv0) (RD (GY tv1) (RD (Zq _) ADo)))).mono fun e W' ⟨he,bel⟩=>?_
 subst he
 exact ⟨_,rfl,_,_,_,[],_,[],hW',trodAll_mk1 (shut_bool Tryz.underlying4 _),(trodAll_cons_mk (Below.trod XC (by kernel_rfl) (of_decide_eq_true (by kernel_rfl)) k0 bel lt0) (trodAll_cons_mk (Below.trod XC (by kernel_rfl) (of_decide_eq_true (by kernel_rfl)) k1 bel lt1) (trodAll_cons_mk (shut_bool Tryz.underlying4 _) trodAll_mk0))),rfl,bel.frame _,fun h=>by cases h⟩
set_option maxHeartbeats 0 in
set_option maxRecDepth 100000 in
theorem AJU:joinedFacts Tryz.pinned.checked.prog 4 Tryz.f4 (OpenSpec.ofChange Rows.valueFunctionsSpec).bare Rows.valueFunctionsRow=true:=by
 unfold joinedFacts
 simp only[qY0]
 repeat' (apply And.intro)
 all_goals decide +kernel
theorem said:Rows.ValueFunctionsSaid:=
 OpenClaim.holds_of_cond 4 Tryz.f4 rfl rfl rfl rfl rfl rfl rfl ⟨rfl,rfl,rfl,rfl,rfl⟩ rfl rfl rfl rfl rfl (by kernel_rfl) Tryz.func4 AJU
  (of_decide_eq_true (by kernel_rfl)) (by unfold Func.isWrapper;first | (rw[if_pos (by decide +kernel)];kernel_rfl) | (rw[if_neg (by decide +kernel)];exact ⟨rfl,rfl⟩))
  (fun os started H enc _ F=>by rw[OpenClaim.pre_eq_preRow];exact ALO os started H enc F)
theorem plain (f : FuncId) (fn : Func) (hf : Tryz.pinned.checked.prog.funcNamed "chcsolver/chcsolverlaw04.ValueFunctions" = some f) (hfn : Tryz.pinned.checked.prog.funcs[f]? = some fn) :
 true=Tryz.pinned.checked.prog.looks []/\∀ (j:Nat) t,fn.params[j]?=some t->Tryz.pinned.checked.prog.wantsStandIn t=false:=by
 obtain rfl : f = 4 := Option.some.inj ((show Tryz.prog.funcNamed "chcsolver/chcsolverlaw04.ValueFunctions" = some 4 by kernel_rfl).symm.trans hf) |>.symm
 obtain rfl:fn=Tryz.f4:=(Option.some.inj (Tryz.func4.symm.trans hfn)).symm
 refine ⟨by kernel_rfl,fun j t ht=>?_⟩
 rw[Tryz.params4] at ht
 have hm:t∈[25,25,4]:=by simpa using Array.mem_of_getElem? ht
 simp only[qY12,List.mem_nil_iff,or_false] at hm
 rcases hm with rfl | rfl | rfl
 ·exact (show Tryz.prog.wantsStandIn 25=false by kernel_rfl)
 ·exact (show Tryz.prog.wantsStandIn 25=false by kernel_rfl)
 ·exact (show Tryz.prog.wantsStandIn 4=false by kernel_rfl)
end Go.Proofs.YtcpdjngcofhljaaGreatDoor.valueFunctions
namespace Go.Proofs.YtcpdjngcofhljaaGreatDoor
theorem valueFunctions_holds:Rows.ValueFunctionsCardSaid:=
 Claim7.holds_tied_plain_at .later [] _ _ _ _ valueFunctions.said (fun _ h=>by cases h) (by decide +kernel) (fun _ h=>by cases h) valueFunctions_row_tie rfl ⟨rfl,rfl⟩ (by decide +kernel) rfl valueFunctions.plain (by decide +kernel)
end Go.Proofs.YtcpdjngcofhljaaGreatDoor
end
