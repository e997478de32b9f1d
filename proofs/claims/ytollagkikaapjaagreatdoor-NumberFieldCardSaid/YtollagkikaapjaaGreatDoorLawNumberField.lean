/- The law holds for every input: its pure part, its row and its card. No condition beyond what each statement says. -/
import Derived.Test.YtollagkikaapjaaGreatDoorR1
import Derived.Test.YtollagkikaapjaaGreatDoorM3
set_option linter.unusedSimpArgs false
set_option linter.unusedVariables false
section
set_option linter.unusedSimpArgs false
set_option linter.unusedVariables false
namespace Go.AM.Num
theorem P_NumberField (a : List UInt8) (ha : SL a) (b : List UInt8) (hb : SL b) (c : List UInt8) (hc : SL c) (k : List Int) (hk : IL k) (l : List Int) (hl : IL l) (m : List Int) (hm : IL m) : l_NumberField a b c k l m = some ((true, ()), ()) := by
  obtain ⟨p, e1, d1⟩ := pick_eq a k
  obtain ⟨q, e2, d2⟩ := pick_eq b l
  obtain ⟨s, e3, d3⟩ := pick_eq c m
  have dz := D_zero
  have do1 := D_one
  have a1 := D_add p q
  have a2 := D_add q s
  have a3 := D_mul p q
  have a4 := D_mul q s
  have a5 := D_mul p s
  unfold l_NumberField
  simp (disch := omega) only [e1, e2, e3, bind_some', Add_t, Mul_t, Sub_t, t0, t1, txt_beq, awake_eq]
  have f1 : p + q = q + p := Rat.add_comm ..
  have f2 : p * q = q * p := Rat.mul_comm ..
  have f3 : p + q + s = p + (q + s) := Rat.add_assoc ..
  have f4 : p * q * s = p * (q * s) := Rat.mul_assoc ..
  have f5 : p * (q + s) = p * q + p * s := Rat.mul_add ..
  have f6 : p + q - q = p := by grind
  have f7 : p + ((0 : Int) : Rat) = p := Rat.add_zero p
  have f8 : p * ((1 : Int) : Rat) = p := Rat.mul_one p
  rw [decide_eq_true f1, decide_eq_true f2, decide_eq_true f3, decide_eq_true f4, decide_eq_true f5, decide_eq_true f6, decide_eq_true f7, decide_eq_true f8]
  simp only [Bool.not_true, cond_f]
  by_cases h : q = ((0 : Int) : Rat)
  · rw [cond_dt h]
  · have h' : q ≠ 0 := h
    have f9 : p * q / q = p := by rw [Rat.div_def, Rat.mul_assoc, Rat.mul_inv_cancel q h', Rat.mul_one]
    rw [cond_df h, Div_t h' (by omega) (by omega), bind_some']
    simp only [txt_beq]
    rw [cond_dt f9]
end Go.AM.Num
end
section
set_option linter.unusedVariables false
namespace Go.Proofs.YtollagkikaapjaaGreatDoor.numberField
open Go.ChangeShapes Go.WideShapes Go.ChangeAt Go.RowKit Go.AM Go.AM.Num
open Go.ChangeMaps (open_string shut_string)
theorem reads (os : Os) {H : Type} (enc : TypeId × Value → H) : ∃ places, DataW.whole enc Tryz.prog ((laidWorld os).forCall (fun _ _ => 0) ⟨#[], #[.string ByteArray.empty, .string ByteArray.empty, .string ByteArray.empty, .slice none 0 0, .slice none 0 0, .slice none 0 0], []⟩).memory Tryz.f5.params.toList Rows.numberFieldSpec.vars false (#[.string ByteArray.empty, .string ByteArray.empty, .string ByteArray.empty, .slice none 0 0, .slice none 0 0, .slice none 0 0] : Array Value).toList 8 = some ([.lit (.string []), .lit (.string []), .lit (.string []), .nil, .nil, .nil], [], places) :=
  ⟨[], by kernel_rfl⟩
set_option maxRecDepth 100000 in
theorem lifted (os : Os) (started : os.Started) (H : Type) (enc : TypeId × Value → H) (F : Stop.Interp) :
    ReturnsInHanded {} Tryz.checked os 5 .any ((OpenSpec.ofChange Rows.numberFieldSpec).preRow enc Tryz.prog Tryz.f5 Rows.numberFieldRow.domain false Rows.numberFieldRow.laid) (((OpenSpec.ofChange Rows.numberFieldSpec).at F).post enc Tryz.prog Tryz.f5 false true false false) := by
  obtain ⟨places, hx⟩ := reads os enc
  refine returnsInHanded_of_row (C := Tryz.checked) (s := OpenSpec.ofChange Rows.numberFieldSpec) Num.own started (by kernel_rfl) Tryz.func5
    (witness_row_atRef (enc := enc) (C := Tryz.checked) false (laidWorld os) #[.string ByteArray.empty, .string ByteArray.empty, .string ByteArray.empty, .slice none 0 0, .slice none 0 0, .slice none 0 0] rfl (laid_var os _) (laid_drop os _) (by kernel_rfl)
      (OpenSpec.preRow_of_cond 8 hx (by kernel_rfl) (fun k hk => by cases hk) (by kernel_rfl) (laid_met os _))) ?_
  intro W base args ds gs before hval0 hW _ _ _ hL hsh _
  have hval : ∀ (j : Nat) t v, Tryz.f5.params[j]? = some t → args[j]? = some v → Value.okWide Tryz.prog W .any base t v := hval0
  have hW' := hW
  obtain ⟨p, q, hA0, hV, rfl, hfz, hnd⟩ := hW
  have hA : DataW.TrodAll enc Tryz.prog W 0 (fun _ => true) true Tryz.f5.params.toList args.toList ds p := hA0
  rw [Tryz.params5] at hA hval
  obtain ⟨v0, vs0, d0, ds0, p0, q0, hargs, rfl, rfl, h0, r0⟩ := trodAll_cons hA
  obtain ⟨v1, vs1, d1, ds1, p1, q1, rfl, rfl, rfl, h1, r1⟩ := trodAll_cons r0
  obtain ⟨v2, vs2, d2, ds2, p2, q2, rfl, rfl, rfl, h2, r2⟩ := trodAll_cons r1
  obtain ⟨v3, vs3, d3, ds3, p3, q3, rfl, rfl, rfl, h3, r3⟩ := trodAll_cons r2
  obtain ⟨v4, vs4, d4, ds4, p4, q4, rfl, rfl, rfl, h4, r4⟩ := trodAll_cons r3
  obtain ⟨v5, vs5, d5, ds5, p5, q5, rfl, rfl, rfl, h5, r5⟩ := trodAll_cons r4
  obtain ⟨rfl, rfl, rfl⟩ := trodAll_nil r5
  obtain rfl : args = #[v0, v1, v2, v3, v4, v5] := by cases args; simp_all
  obtain ⟨rfl, rfl⟩ := trodVars_none hV
  obtain ⟨a0, rfl, rfl, rfl, y0⟩ := open_string Tryz.underlying9 (hval 0 9 v0 rfl rfl) h0
  obtain ⟨a1, rfl, rfl, rfl, y1⟩ := open_string Tryz.underlying9 (hval 1 9 v1 rfl rfl) h1
  obtain ⟨a2, rfl, rfl, rfl, y2⟩ := open_string Tryz.underlying9 (hval 2 9 v2 rfl rfl) h2
  obtain ⟨a3, len3, cap3, rfl⟩ := okWide_slice Tryz.underlying22 (hval 3 22 v3 rfl rfl)
  have k3 := h3
  have lt3 : ∀ x ∈ p3, x.block < W.heap.size := by obtain ⟨m, hm⟩ := k3; exact DataW.trod_lt m _ _ _ hm
  obtain ⟨l3, rfl, hm3, hw3, tv3⟩ := ints_tv Tryz.underlying22 Tryz.underlying3 (by kernel_rfl) h3
  obtain ⟨a4, len4, cap4, rfl⟩ := okWide_slice Tryz.underlying22 (hval 4 22 v4 rfl rfl)
  have k4 := h4
  have lt4 : ∀ x ∈ p4, x.block < W.heap.size := by obtain ⟨m, hm⟩ := k4; exact DataW.trod_lt m _ _ _ hm
  obtain ⟨l4, rfl, hm4, hw4, tv4⟩ := ints_tv Tryz.underlying22 Tryz.underlying3 (by kernel_rfl) h4
  obtain ⟨a5, len5, cap5, rfl⟩ := okWide_slice Tryz.underlying22 (hval 5 22 v5 rfl rfl)
  have k5 := h5
  have lt5 : ∀ x ∈ p5, x.block < W.heap.size := by obtain ⟨m, hm⟩ := k5; exact DataW.trod_lt m _ _ _ hm
  obtain ⟨l5, rfl, hm5, hw5, tv5⟩ := ints_tv Tryz.underlying22 Tryz.underlying3 (by kernel_rfl) h5
  clear hA0 hval0
  have hp := P_NumberField a0.data.toList (sl_of y0) a1.data.toList (sl_of y1) a2.data.toList (sl_of y2) l3 (il_of hm3 hw3) l4 (il_of hm4 hw4) l5 (il_of hm5 hw5)
  refine (law_calls G_l_NumberField (fun _ => rfl) (a0.data.toList, a1.data.toList, a2.data.toList, l3, l4, l5, ()) ((true, ()) : tysR [.val .bool]) () hp (fun _ _ _ _ _ h => res_true h) W (gn_of hL hsh) #[.string a0, .string a1, .string a2, .slice a3 l3.length cap3, .slice a4 l4.length cap4, .slice a5 l5.length cap5] ⟨_, _, rfl, str_tv' _, ⟨_, _, rfl, str_tv' _, ⟨_, _, rfl, str_tv' _, ⟨_, _, rfl, tv3, ⟨_, _, rfl, tv4, ⟨_, _, rfl, tv5, rfl⟩⟩⟩⟩⟩⟩).mono fun e W' ⟨he, bel⟩ => ?_
  subst he
  exact ⟨_, rfl, _, _, _, [], _, [], hW', trodAll_mk1 (shut_bool Tryz.underlying4 _), (trodAll_cons_mk (shut_string Tryz.underlying9 y0) (trodAll_cons_mk (shut_string Tryz.underlying9 y1) (trodAll_cons_mk (shut_string Tryz.underlying9 y2) (trodAll_cons_mk (Below.trod laidOut (by kernel_rfl) (of_decide_eq_true (by kernel_rfl)) k3 bel lt3) (trodAll_cons_mk (Below.trod laidOut (by kernel_rfl) (of_decide_eq_true (by kernel_rfl)) k4 bel lt4) (trodAll_cons_mk (Below.trod laidOut (by kernel_rfl) (of_decide_eq_true (by kernel_rfl)) k5 bel lt5) trodAll_mk0)))))), rfl, bel.frame _, fun h => by cases h⟩

theorem said : Rows.NumberFieldSaid :=
  OpenClaim.holds_of_cond 5 Tryz.f5 rfl rfl rfl rfl rfl rfl rfl ⟨rfl, rfl, rfl, rfl, rfl⟩ rfl rfl rfl rfl rfl (by kernel_rfl) Tryz.func5 (by kernel_rfl)
    (of_decide_eq_true (by kernel_rfl)) (by unfold Func.isWrapper; first | (rw [if_pos (by decide +kernel)]; kernel_rfl) | (rw [if_neg (by decide +kernel)]; exact ⟨rfl, rfl⟩))
    (fun os started H enc _ F => by rw [OpenClaim.pre_eq_preRow]; exact lifted os started H enc F)

/-- No parameter wants a stand-in; the program's own looks are on. -/
theorem plain (f : FuncId) (fn : Func) (hf : Tryz.pinned.checked.prog.funcNamed "chcsolver/chcsolverlaw01.NumberField" = some f) (hfn : Tryz.pinned.checked.prog.funcs[f]? = some fn) :
    true = Tryz.pinned.checked.prog.looks [] ∧ ∀ (j : Nat) t, fn.params[j]? = some t → Tryz.pinned.checked.prog.wantsStandIn t = false := by
  obtain rfl : f = 5 := Option.some.inj ((show Tryz.prog.funcNamed "chcsolver/chcsolverlaw01.NumberField" = some 5 by kernel_rfl).symm.trans hf) |>.symm
  obtain rfl : fn = Tryz.f5 := (Option.some.inj (Tryz.func5.symm.trans hfn)).symm
  refine ⟨by kernel_rfl, fun j t ht => ?_⟩
  rw [Tryz.params5] at ht
  have hm : t ∈ [9, 9, 9, 22, 22, 22] := by simpa using Array.mem_of_getElem? ht
  simp only [List.mem_cons, List.mem_nil_iff, or_false] at hm
  rcases hm with rfl | rfl | rfl | rfl | rfl | rfl
  · exact (show Tryz.prog.wantsStandIn 9 = false by kernel_rfl)
  · exact (show Tryz.prog.wantsStandIn 9 = false by kernel_rfl)
  · exact (show Tryz.prog.wantsStandIn 9 = false by kernel_rfl)
  · exact (show Tryz.prog.wantsStandIn 22 = false by kernel_rfl)
  · exact (show Tryz.prog.wantsStandIn 22 = false by kernel_rfl)
  · exact (show Tryz.prog.wantsStandIn 22 = false by kernel_rfl)
end Go.Proofs.YtollagkikaapjaaGreatDoor.numberField
namespace Go.Proofs.YtollagkikaapjaaGreatDoor
/-- THE CARD of NumberField. -/
theorem numberField_holds : Rows.NumberFieldCardSaid :=
  Claim7.holds_tied_plain_at .later [] _ _ _ _ numberField.said (fun _ h => by cases h) (by kernel_rfl) (fun _ h => by cases h) numberField_row_tie rfl ⟨rfl, rfl⟩ (by kernel_rfl) rfl numberField.plain (by kernel_rfl)
end Go.Proofs.YtollagkikaapjaaGreatDoor
end
