/- The law holds for every input: its pure part, its row and its card. No condition beyond what each statement says. -/
import Derived.Test.YtollagkikaapjaaGreatDoorR1
import Derived.Test.YtollagkikaapjaaGreatDoorM3
set_option linter.unusedSimpArgs false
set_option linter.unusedVariables false
section
set_option linter.unusedSimpArgs false
set_option linter.unusedVariables false
namespace Go.AM.Num
theorem binary_eq {a b : List UInt8} (ha : a.length ≤ 1000) (hb : b.length ≤ 1000) : l_binary a b = some ((true, ()), ()) := by
  unfold l_binary
  simp (disch := omega) only [cmp_eq', r_cmp_eq', Add_eq, r_add_eq', sub_eq', r_sub_eq', Mul_eq, r_mul_eq', Div_eq, r_div_eq', quo_eq, r_quo_eq, rem_eq, r_rem_eq, gcd_eq', r_gcd_eq', lcm_eq, r_lcm_eq, bind_some', beq_self_eq_true, cond_t]
theorem P_NumberBinary (a : List UInt8) (ha : SL a) (b : List UInt8) (hb : SL b) (l : List Int) (hl : IL l) (m : List Int) (hm : IL m) : l_NumberBinary a b l m = some ((true, ()), ()) := by
  unfold l_NumberBinary
  rw [short_eq (l := [a, b]) (by simp), bind_some']
  by_cases h : ∀ s ∈ [a, b], s.length ≤ 50
  · have h1 : a.length ≤ 50 := h a (by simp)
    have h2 : b.length ≤ 50 := h b (by simp)
    rw [decide_eq_true h]
    obtain ⟨c1, ec1, hc1⟩ := g_new_eq l
    obtain ⟨c2, ec2, hc2⟩ := g_new_eq m
    obtain ⟨q1, c1', eq1, _, D1⟩ := g_number_eq hc1
    obtain ⟨q2, c2', eq2, _, D2⟩ := g_number_eq hc2
    have eq1' : g_Choices_Number (c1.1, c1.2) = some ((txt q1, ()), (c1', ())) := eq1
    have eq2' : g_Choices_Number (c2.1, c2.2) = some ((txt q2, ()), (c2', ())) := eq2
    obtain ⟨q3, e3, D3⟩ := pick_eq a l
    have l1 := txt_len q1
    have l2 := txt_len q2
    have l3 := txt_len q3
    simp only [Bool.not_true, cond_f, ec1, ec2, eq1', eq2', bind_some', binary_eq (a := a) (b := b) (by omega) (by omega), binary_eq (a := txt q1) (b := txt q2) (by omega) (by omega), binary_eq (a := txt q3) (b := txt q2) (by omega) (by omega), cond_t, e3, awake_eq]
  · rw [decide_eq_false h, awake_eq]; rfl
end Go.AM.Num
end
section
set_option linter.unusedVariables false
namespace Go.Proofs.YtollagkikaapjaaGreatDoor.numberBinary
open Go.ChangeShapes Go.WideShapes Go.ChangeAt Go.RowKit Go.AM Go.AM.Num
open Go.ChangeMaps (open_string shut_string)
theorem reads (os : Os) {H : Type} (enc : TypeId × Value → H) : ∃ places, DataW.whole enc Tryz.prog ((laidWorld os).forCall (fun _ _ => 0) ⟨#[], #[.string ByteArray.empty, .string ByteArray.empty, .slice none 0 0, .slice none 0 0], []⟩).memory Tryz.f11.params.toList Rows.numberBinarySpec.vars false (#[.string ByteArray.empty, .string ByteArray.empty, .slice none 0 0, .slice none 0 0] : Array Value).toList 8 = some ([.lit (.string []), .lit (.string []), .nil, .nil], [], places) :=
  ⟨[], by kernel_rfl⟩
set_option maxRecDepth 100000 in
theorem lifted (os : Os) (started : os.Started) (H : Type) (enc : TypeId × Value → H) (F : Stop.Interp) :
    ReturnsInHanded {} Tryz.checked os 11 .any ((OpenSpec.ofChange Rows.numberBinarySpec).preRow enc Tryz.prog Tryz.f11 Rows.numberBinaryRow.domain false Rows.numberBinaryRow.laid) (((OpenSpec.ofChange Rows.numberBinarySpec).at F).post enc Tryz.prog Tryz.f11 false true false false) := by
  obtain ⟨places, hx⟩ := reads os enc
  refine returnsInHanded_of_row (C := Tryz.checked) (s := OpenSpec.ofChange Rows.numberBinarySpec) Num.own started (by kernel_rfl) Tryz.func11
    (witness_row_atRef (enc := enc) (C := Tryz.checked) false (laidWorld os) #[.string ByteArray.empty, .string ByteArray.empty, .slice none 0 0, .slice none 0 0] rfl (laid_var os _) (laid_drop os _) (by kernel_rfl)
      (OpenSpec.preRow_of_cond 8 hx (by kernel_rfl) (fun k hk => by cases hk) (by kernel_rfl) (laid_met os _))) ?_
  intro W base args ds gs before hval0 hW _ _ _ hL hsh _
  have hval : ∀ (j : Nat) t v, Tryz.f11.params[j]? = some t → args[j]? = some v → Value.okWide Tryz.prog W .any base t v := hval0
  have hW' := hW
  obtain ⟨p, q, hA0, hV, rfl, hfz, hnd⟩ := hW
  have hA : DataW.TrodAll enc Tryz.prog W 0 (fun _ => true) true Tryz.f11.params.toList args.toList ds p := hA0
  rw [Tryz.params11] at hA hval
  obtain ⟨v0, vs0, d0, ds0, p0, q0, hargs, rfl, rfl, h0, r0⟩ := trodAll_cons hA
  obtain ⟨v1, vs1, d1, ds1, p1, q1, rfl, rfl, rfl, h1, r1⟩ := trodAll_cons r0
  obtain ⟨v2, vs2, d2, ds2, p2, q2, rfl, rfl, rfl, h2, r2⟩ := trodAll_cons r1
  obtain ⟨v3, vs3, d3, ds3, p3, q3, rfl, rfl, rfl, h3, r3⟩ := trodAll_cons r2
  obtain ⟨rfl, rfl, rfl⟩ := trodAll_nil r3
  obtain rfl : args = #[v0, v1, v2, v3] := by cases args; simp_all
  obtain ⟨rfl, rfl⟩ := trodVars_none hV
  obtain ⟨a0, rfl, rfl, rfl, y0⟩ := open_string Tryz.underlying9 (hval 0 9 v0 rfl rfl) h0
  obtain ⟨a1, rfl, rfl, rfl, y1⟩ := open_string Tryz.underlying9 (hval 1 9 v1 rfl rfl) h1
  obtain ⟨a2, len2, cap2, rfl⟩ := okWide_slice Tryz.underlying22 (hval 2 22 v2 rfl rfl)
  have k2 := h2
  have lt2 : ∀ x ∈ p2, x.block < W.heap.size := by obtain ⟨m, hm⟩ := k2; exact DataW.trod_lt m _ _ _ hm
  obtain ⟨l2, rfl, hm2, hw2, tv2⟩ := ints_tv Tryz.underlying22 Tryz.underlying3 (by kernel_rfl) h2
  obtain ⟨a3, len3, cap3, rfl⟩ := okWide_slice Tryz.underlying22 (hval 3 22 v3 rfl rfl)
  have k3 := h3
  have lt3 : ∀ x ∈ p3, x.block < W.heap.size := by obtain ⟨m, hm⟩ := k3; exact DataW.trod_lt m _ _ _ hm
  obtain ⟨l3, rfl, hm3, hw3, tv3⟩ := ints_tv Tryz.underlying22 Tryz.underlying3 (by kernel_rfl) h3
  clear hA0 hval0
  have hp := P_NumberBinary a0.data.toList (sl_of y0) a1.data.toList (sl_of y1) l2 (il_of hm2 hw2) l3 (il_of hm3 hw3)
  refine (law_calls G_l_NumberBinary (fun _ => rfl) (a0.data.toList, a1.data.toList, l2, l3, ()) ((true, ()) : tysR [.val .bool]) () hp (fun _ _ _ _ _ h => res_true h) W (gn_of hL hsh) #[.string a0, .string a1, .slice a2 l2.length cap2, .slice a3 l3.length cap3] ⟨_, _, rfl, str_tv' _, ⟨_, _, rfl, str_tv' _, ⟨_, _, rfl, tv2, ⟨_, _, rfl, tv3, rfl⟩⟩⟩⟩).mono fun e W' ⟨he, bel⟩ => ?_
  subst he
  exact ⟨_, rfl, _, _, _, [], _, [], hW', trodAll_mk1 (shut_bool Tryz.underlying4 _), (trodAll_cons_mk (shut_string Tryz.underlying9 y0) (trodAll_cons_mk (shut_string Tryz.underlying9 y1) (trodAll_cons_mk (Below.trod laidOut (by kernel_rfl) (of_decide_eq_true (by kernel_rfl)) k2 bel lt2) (trodAll_cons_mk (Below.trod laidOut (by kernel_rfl) (of_decide_eq_true (by kernel_rfl)) k3 bel lt3) trodAll_mk0)))), rfl, bel.frame _, fun h => by cases h⟩

theorem said : Rows.NumberBinarySaid :=
  OpenClaim.holds_of_cond 11 Tryz.f11 rfl rfl rfl rfl rfl rfl rfl ⟨rfl, rfl, rfl, rfl, rfl⟩ rfl rfl rfl rfl rfl (by kernel_rfl) Tryz.func11 (by kernel_rfl)
    (of_decide_eq_true (by kernel_rfl)) (by unfold Func.isWrapper; first | (rw [if_pos (by decide +kernel)]; kernel_rfl) | (rw [if_neg (by decide +kernel)]; exact ⟨rfl, rfl⟩))
    (fun os started H enc _ F => by rw [OpenClaim.pre_eq_preRow]; exact lifted os started H enc F)

/-- No parameter wants a stand-in; the program's own looks are on. -/
theorem plain (f : FuncId) (fn : Func) (hf : Tryz.pinned.checked.prog.funcNamed "chcsolver/chcsolverlaw01.NumberBinary" = some f) (hfn : Tryz.pinned.checked.prog.funcs[f]? = some fn) :
    true = Tryz.pinned.checked.prog.looks [] ∧ ∀ (j : Nat) t, fn.params[j]? = some t → Tryz.pinned.checked.prog.wantsStandIn t = false := by
  obtain rfl : f = 11 := Option.some.inj ((show Tryz.prog.funcNamed "chcsolver/chcsolverlaw01.NumberBinary" = some 11 by kernel_rfl).symm.trans hf) |>.symm
  obtain rfl : fn = Tryz.f11 := (Option.some.inj (Tryz.func11.symm.trans hfn)).symm
  refine ⟨by kernel_rfl, fun j t ht => ?_⟩
  rw [Tryz.params11] at ht
  have hm : t ∈ [9, 9, 22, 22] := by simpa using Array.mem_of_getElem? ht
  simp only [List.mem_cons, List.mem_nil_iff, or_false] at hm
  rcases hm with rfl | rfl | rfl | rfl
  · exact (show Tryz.prog.wantsStandIn 9 = false by kernel_rfl)
  · exact (show Tryz.prog.wantsStandIn 9 = false by kernel_rfl)
  · exact (show Tryz.prog.wantsStandIn 22 = false by kernel_rfl)
  · exact (show Tryz.prog.wantsStandIn 22 = false by kernel_rfl)
end Go.Proofs.YtollagkikaapjaaGreatDoor.numberBinary
namespace Go.Proofs.YtollagkikaapjaaGreatDoor
/-- THE CARD of NumberBinary. -/
theorem numberBinary_holds : Rows.NumberBinaryCardSaid :=
  Claim7.holds_tied_plain_at .later [] _ _ _ _ numberBinary.said (fun _ h => by cases h) (by kernel_rfl) (fun _ h => by cases h) numberBinary_row_tie rfl ⟨rfl, rfl⟩ (by kernel_rfl) rfl numberBinary.plain (by kernel_rfl)
end Go.Proofs.YtollagkikaapjaaGreatDoor
end
