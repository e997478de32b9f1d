/- Law TermNames: its row and its card. No conditions. -/
import Derived.Test.YtppjkoefhkcjfaaGreatDoorTermNames5
set_option linter.unusedSimpArgs false
set_option linter.unusedVariables false
section
namespace Go.Proofs.YtppjkoefhkcjfaaGreatDoor.termNames
open Go.ChangeShapes Go.WideShapes Go.ChangeAt Go.RowKit Go.AM Go.AM.Num
open Go.ChangeMaps (open_string shut_string)
theorem TU:Go.AM.Good VN 3 JZ:=(Rz f0).all 3 [] _ (by kernel_rfl)
theorem Fm (os:Os) {H:Type} (enc:TypeId×Value->H):∃ places,DataW.whole enc Tryz.prog ((Fx os).forCall (fun _ _=>0) ⟨#[],#[.string ByteArray.empty,.int .i64 0],[]⟩).memory Tryz.f3.params.toList Rows.termNamesSpec.vars false (#[.string ByteArray.empty,.int .i64 0]:Array Value).toList 8=some ([.lit (.string []),.lit (.int .i64 0)],[],places):=
 ⟨[],by kernel_rfl⟩
set_option maxRecDepth 100000 in
theorem SO (os:Os) (started:os.Started) (H:Type) (enc:TypeId×Value->H) (F:Stop.Interp) :
 ReturnsInHanded {} Tryz.checked os 3 .any ((OpenSpec.ofChange Rows.termNamesSpec).preRow enc Tryz.prog Tryz.f3 Rows.termNamesRow.domain false Rows.termNamesRow.laid) (((OpenSpec.ofChange Rows.termNamesSpec).at F).post enc Tryz.prog Tryz.f3 false true false false):=by
 obtain ⟨places,hx⟩:=Fm os enc
 refine returnsInHanded_of_row (C:=Tryz.checked) (s:=OpenSpec.ofChange Rows.termNamesSpec) Num.own started (by kernel_rfl) Tryz.func3
  (witness_row_atRef (enc:=enc) (C:=Tryz.checked) false (Fx os) #[.string ByteArray.empty,.int .i64 0] rfl (TA os _) (Pb os _) (by kernel_rfl)
   (OpenSpec.preRow_of_cond 8 hx (by kernel_rfl) (fun k hk=>by cases hk) (by kernel_rfl) (Qw os _))) ?_
 intro W base args ds gs before hval0 hW _ _ _ hL hsh _
 have hval:∀ (j:Nat) t v,Tryz.f3.params[j]?=some t->args[j]?=some v->Value.okWide Tryz.prog W .any base t v:=hval0
 have hW':=hW
 obtain ⟨p,q,hA0,hV,rfl,hfz,hnd⟩:=hW
 have hA:DataW.TrodAll enc Tryz.prog W 0 (fun _=>true) true Tryz.f3.params.toList args.toList ds p:=hA0
 rw[Tryz.params3] at hA hval
 obtain ⟨v0,vs0,d0,ds0,p0,q0,hargs,rfl,rfl,h0,r0⟩:=trodAll_cons hA
 obtain ⟨v1,vs1,d1,ds1,p1,q1,rfl,rfl,rfl,h1,r1⟩:=trodAll_cons r0
 obtain ⟨rfl,rfl,rfl⟩:=trodAll_nil r1
 obtain rfl:args=#[v0,v1]:=by cases args;simp_all
 obtain ⟨rfl,rfl⟩:=trodVars_none hV
 obtain ⟨a0,rfl,rfl,rfl,y0⟩:=open_string Tryz.underlying9 (hval 0 9 v0 rfl rfl) h0
 obtain ⟨a1,rfl,rfl,rfl,w1⟩:=open_int Tryz.underlying3 (hval 1 3 v1 rfl rfl) h1
 clear hA0 hval0
 have hp:=TG a0.data.toList (Sn y0) a1 (SK w1)
 refine (Qa (TU) (a0.data.toList,a1,()) rfl rfl () hp W (N7 hL hsh) #[.string a0,.int .i64 a1] (LU (Sa _) (LU (Oe _) SP))).mono fun e W' ⟨he,bel⟩=>?_
 subst he
 exact ⟨_,rfl,_,_,_,[],_,[],hW',trodAll_mk1 (shut_bool Tryz.underlying4 _),(trodAll_cons_mk (shut_string Tryz.underlying9 y0) (trodAll_cons_mk (shut_int Tryz.underlying3 w1) trodAll_mk0)),rfl,bel.frame _,fun h=>by cases h⟩
set_option maxHeartbeats 0 in
set_option maxRecDepth 100000 in
theorem N0:joinedFacts Tryz.pinned.checked.prog 3 Tryz.f3 (OpenSpec.ofChange Rows.termNamesSpec).bare Rows.termNamesRow=true:=by
 unfold joinedFacts
 simp only[qY0]
 repeat' (apply And.intro)
 all_goals decide +kernel
theorem said:Rows.TermNamesSaid:=
 OpenClaim.holds_of_cond 3 Tryz.f3 rfl rfl rfl rfl rfl rfl rfl ⟨rfl,rfl,rfl,rfl,rfl⟩ rfl rfl rfl rfl rfl (by kernel_rfl) Tryz.func3 N0
  (of_decide_eq_true (by kernel_rfl)) (by unfold Func.isWrapper;first | (rw[if_pos (by decide +kernel)];kernel_rfl) | (rw[if_neg (by decide +kernel)];exact ⟨rfl,rfl⟩))
  (fun os started H enc _ F=>by rw[OpenClaim.pre_eq_preRow];exact SO os started H enc F)
theorem plain (f : FuncId) (fn : Func) (hf : Tryz.pinned.checked.prog.funcNamed "chcsolver/chcsolverlaw03.TermNames" = some f) (hfn : Tryz.pinned.checked.prog.funcs[f]? = some fn) :
 true=Tryz.pinned.checked.prog.looks []/\∀ (j:Nat) t,fn.params[j]?=some t->Tryz.pinned.checked.prog.wantsStandIn t=false:=by
 obtain rfl : f = 3 := Option.some.inj ((show Tryz.prog.funcNamed "chcsolver/chcsolverlaw03.TermNames" = some 3 by kernel_rfl).symm.trans hf) |>.symm
 obtain rfl:fn=Tryz.f3:=(Option.some.inj (Tryz.func3.symm.trans hfn)).symm
 refine ⟨by kernel_rfl,fun j t ht=>?_⟩
 rw[Tryz.params3] at ht
 have hm:t∈[9,3]:=by simpa using Array.mem_of_getElem? ht
 simp only[qY12,List.mem_nil_iff,or_false] at hm
 rcases hm with rfl | rfl
 ·exact (show Tryz.prog.wantsStandIn 9=false by kernel_rfl)
 ·exact (show Tryz.prog.wantsStandIn 3=false by kernel_rfl)
end Go.Proofs.YtppjkoefhkcjfaaGreatDoor.termNames
namespace Go.Proofs.YtppjkoefhkcjfaaGreatDoor
theorem termNames_holds:Rows.TermNamesCardSaid:=
 Claim7.holds_tied_plain_at .later [] _ _ _ _ termNames.said (fun _ h=>by cases h) (by decide +kernel) (fun _ h=>by cases h) termNames_row_tie rfl ⟨rfl,rfl⟩ (by decide +kernel) rfl termNames.plain (by decide +kernel)
end Go.Proofs.YtppjkoefhkcjfaaGreatDoor
end
