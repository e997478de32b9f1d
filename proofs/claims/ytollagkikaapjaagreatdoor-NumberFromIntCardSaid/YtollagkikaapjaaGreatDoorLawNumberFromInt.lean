/- The law holds for every input: its pure part, its row and its card. No condition beyond what each statement says. -/
import Derived.Test.YtollagkikaapjaaGreatDoorR1
import Derived.Test.YtollagkikaapjaaGreatDoorM3
set_option linter.unusedSimpArgs false
set_option linter.unusedVariables false
section
set_option linter.unusedSimpArgs false
set_option linter.unusedVariables false
namespace Go.AM.Num
theorem P_NumberFromInt (n : Int) (hn : in64 n) (m : Int) (hm : in64 m) : l_NumberFromInt n m = some ((true, ()), ()) := by
  have bn : -9223372036854775808 ≤ n ∧ n ≤ 9223372036854775807 := hn
  have bm : -9223372036854775808 ≤ m ∧ m ≤ 9223372036854775807 := hm
  have d1 := D_small (n := n) (by omega)
  have d2 := D_small (n := m) (by omega)
  have d3 := D_zero
  have l1 := txt_len (n : Rat)
  have hi := int_eq (a := txt (n : Rat)) (by omega)
  have hs : sInt (txt (n : Rat)) = (n, true) := by
    unfold sInt; rw [rd_txt]; simp only [Rat.den_intCast, Rat.num_intCast]; rw [if_pos ⟨trivial, bn⟩]
  rw [hs] at hi
  have hc := CmpI_t (x := n) (y := m) (by omega) (by omega)
  have hz := CmpI_t (x := n) (y := 0) (by omega) (by omega)
  have hg := SignI_t (x := n) (by omega)
  have hI := IsInt_t (p := (n : Rat)) (by omega)
  rw [Rat.den_intCast] at hI
  rw [Int.sub_zero] at hz
  unfold l_NumberFromInt
  simp only [fromInt_eq hn, fromInt_eq hm, r_fromInt_eq hn, bind_some', hi, hc, hz, hg, hI, t0, awake_eq, beq_self_eq_true, cond_t]
  by_cases h : n < m
  · rw [cond_dt h, Int.sign_eq_neg_one_of_neg (by omega)]; rfl
  · rw [cond_df h]
    by_cases h2 : n > m
    · rw [cond_dt h2, Int.sign_eq_one_of_pos (by omega)]; rfl
    · rw [cond_df h2, show n - m = 0 by omega]; rfl
end Go.AM.Num
end
section
set_option linter.unusedVariables false
namespace Go.Proofs.YtollagkikaapjaaGreatDoor.numberFromInt
open Go.ChangeShapes Go.WideShapes Go.ChangeAt Go.RowKit Go.AM Go.AM.Num
open Go.ChangeMaps (open_string shut_string)
theorem reads (os : Os) {H : Type} (enc : TypeId × Value → H) : ∃ places, DataW.whole enc Tryz.prog ((laidWorld os).forCall (fun _ _ => 0) ⟨#[], #[.int .i64 0, .int .i64 0], []⟩).memory Tryz.f12.params.toList Rows.numberFromIntSpec.vars false (#[.int .i64 0, .int .i64 0] : Array Value).toList 8 = some ([.lit (.int .i64 0), .lit (.int .i64 0)], [], places) :=
  ⟨[], by kernel_rfl⟩
set_option maxRecDepth 100000 in
theorem lifted (os : Os) (started : os.Started) (H : Type) (enc : TypeId × Value → H) (F : Stop.Interp) :
    ReturnsInHanded {} Tryz.checked os 12 .any ((OpenSpec.ofChange Rows.numberFromIntSpec).preRow enc Tryz.prog Tryz.f12 Rows.numberFromIntRow.domain false Rows.numberFromIntRow.laid) (((OpenSpec.ofChange Rows.numberFromIntSpec).at F).post enc Tryz.prog Tryz.f12 false true false false) := by
  obtain ⟨places, hx⟩ := reads os enc
  refine returnsInHanded_of_row (C := Tryz.checked) (s := OpenSpec.ofChange Rows.numberFromIntSpec) Num.own started (by kernel_rfl) Tryz.func12
    (witness_row_atRef (enc := enc) (C := Tryz.checked) false (laidWorld os) #[.int .i64 0, .int .i64 0] rfl (laid_var os _) (laid_drop os _) (by kernel_rfl)
      (OpenSpec.preRow_of_cond 8 hx (by kernel_rfl) (fun k hk => by cases hk) (by kernel_rfl) (laid_met os _))) ?_
  intro W base args ds gs before hval0 hW _ _ _ hL hsh _
  have hval : ∀ (j : Nat) t v, Tryz.f12.params[j]? = some t → args[j]? = some v → Value.okWide Tryz.prog W .any base t v := hval0
  have hW' := hW
  obtain ⟨p, q, hA0, hV, rfl, hfz, hnd⟩ := hW
  have hA : DataW.TrodAll enc Tryz.prog W 0 (fun _ => true) true Tryz.f12.params.toList args.toList ds p := hA0
  rw [Tryz.params12] at hA hval
  obtain ⟨v0, vs0, d0, ds0, p0, q0, hargs, rfl, rfl, h0, r0⟩ := trodAll_cons hA
  obtain ⟨v1, vs1, d1, ds1, p1, q1, rfl, rfl, rfl, h1, r1⟩ := trodAll_cons r0
  obtain ⟨rfl, rfl, rfl⟩ := trodAll_nil r1
  obtain rfl : args = #[v0, v1] := by cases args; simp_all
  obtain ⟨rfl, rfl⟩ := trodVars_none hV
  obtain ⟨a0, rfl, rfl, rfl, w0⟩ := open_int Tryz.underlying3 (hval 0 3 v0 rfl rfl) h0
  obtain ⟨a1, rfl, rfl, rfl, w1⟩ := open_int Tryz.underlying3 (hval 1 3 v1 rfl rfl) h1
  clear hA0 hval0
  have hp := P_NumberFromInt a0 (in64_of w0) a1 (in64_of w1)
  refine (law_calls G_l_NumberFromInt (fun _ => rfl) (a0, a1, ()) ((true, ()) : tysR [.val .bool]) () hp (fun _ _ _ _ _ h => res_true h) W (gn_of hL hsh) #[.int .i64 a0, .int .i64 a1] ⟨_, _, rfl, int_tv _ _, ⟨_, _, rfl, int_tv _ _, rfl⟩⟩).mono fun e W' ⟨he, bel⟩ => ?_
  subst he
  exact ⟨_, rfl, _, _, _, [], _, [], hW', trodAll_mk1 (shut_bool Tryz.underlying4 _), (trodAll_cons_mk (shut_int Tryz.underlying3 w0) (trodAll_cons_mk (shut_int Tryz.underlying3 w1) trodAll_mk0)), rfl, bel.frame _, fun h => by cases h⟩

theorem said : Rows.NumberFromIntSaid :=
  OpenClaim.holds_of_cond 12 Tryz.f12 rfl rfl rfl rfl rfl rfl rfl ⟨rfl, rfl, rfl, rfl, rfl⟩ rfl rfl rfl rfl rfl (by kernel_rfl) Tryz.func12 (by kernel_rfl)
    (of_decide_eq_true (by kernel_rfl)) (by unfold Func.isWrapper; first | (rw [if_pos (by decide +kernel)]; kernel_rfl) | (rw [if_neg (by decide +kernel)]; exact ⟨rfl, rfl⟩))
    (fun os started H enc _ F => by rw [OpenClaim.pre_eq_preRow]; exact lifted os started H enc F)

/-- No parameter wants a stand-in; the program's own looks are on. -/
theorem plain (f : FuncId) (fn : Func) (hf : Tryz.pinned.checked.prog.funcNamed "chcsolver/chcsolverlaw01.NumberFromInt" = some f) (hfn : Tryz.pinned.checked.prog.funcs[f]? = some fn) :
    true = Tryz.pinned.checked.prog.looks [] ∧ ∀ (j : Nat) t, fn.params[j]? = some t → Tryz.pinned.checked.prog.wantsStandIn t = false := by
  obtain rfl : f = 12 := Option.some.inj ((show Tryz.prog.funcNamed "chcsolver/chcsolverlaw01.NumberFromInt" = some 12 by kernel_rfl).symm.trans hf) |>.symm
  obtain rfl : fn = Tryz.f12 := (Option.some.inj (Tryz.func12.symm.trans hfn)).symm
  refine ⟨by kernel_rfl, fun j t ht => ?_⟩
  rw [Tryz.params12] at ht
  have hm : t ∈ [3, 3] := by simpa using Array.mem_of_getElem? ht
  simp only [List.mem_cons, List.mem_nil_iff, or_false] at hm
  rcases hm with rfl | rfl
  · exact (show Tryz.prog.wantsStandIn 3 = false by kernel_rfl)
  · exact (show Tryz.prog.wantsStandIn 3 = false by kernel_rfl)
end Go.Proofs.YtollagkikaapjaaGreatDoor.numberFromInt
namespace Go.Proofs.YtollagkikaapjaaGreatDoor
/-- THE CARD of NumberFromInt. -/
theorem numberFromInt_holds : Rows.NumberFromIntCardSaid :=
  Claim7.holds_tied_plain_at .later [] _ _ _ _ numberFromInt.said (fun _ h => by cases h) (by kernel_rfl) (fun _ h => by cases h) numberFromInt_row_tie rfl ⟨rfl, rfl⟩ (by kernel_rfl) rfl numberFromInt.plain (by kernel_rfl)
end Go.Proofs.YtollagkikaapjaaGreatDoor
end
