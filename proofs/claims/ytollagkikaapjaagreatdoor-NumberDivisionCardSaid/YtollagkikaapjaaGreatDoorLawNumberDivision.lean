/- The law holds for every input: its pure part, its row and its card. No condition beyond what each statement says. -/
import Derived.Test.YtollagkikaapjaaGreatDoorR1
import Derived.Test.YtollagkikaapjaaGreatDoorM3
set_option linter.unusedSimpArgs false
set_option linter.unusedVariables false
section
set_option linter.unusedSimpArgs false
set_option linter.unusedVariables false
namespace Go.AM.Num
theorem div_bound (x y : Int) : (x / y).natAbs ≤ x.natAbs + 1 := by
  have := Int.natAbs_ediv_le_natAbs x y
  omega
theorem D_quo (x y : Int) : D ((x / y : Int) : Rat) ≤ D (x : Rat) := by
  rw [D_int, D_int]; have := dd_len_mono (Int.natAbs_ediv_le_natAbs x y); omega
theorem D_mod (x : Int) {y : Int} (hy : y ≠ 0) : D ((x % y : Int) : Rat) ≤ D (y : Rat) := by
  rw [D_int, D_int]
  have h1 := Int.emod_nonneg x hy
  have h2 := Int.emod_lt x hy
  have := dd_len_mono (m := (x % y).natAbs) (n := y.natAbs) (by omega)
  omega
theorem D_mulI (x y : Int) : D ((x * y : Int) : Rat) ≤ D (x : Rat) + D (y : Rat) := by rw [Rat.intCast_mul]; exact D_mul _ _
theorem D_abs (x : Int) : D (((x.natAbs : Nat) : Int) : Rat) = D (x : Rat) := by rw [D_int, D_int]; simp
theorem ne0 {x : Int} (h : x ≠ 0) : (x : Rat) ≠ 0 := fun e => h (by have := congrArg Rat.num e; rw [Rat.num_intCast] at this; exact this)
theorem P_NumberDivision (a : List UInt8) (ha : SL a) (b : List UInt8) (hb : SL b) (k : List Int) (hk : IL k) (l : List Int) (hl : IL l) : l_NumberDivision a b k l = some ((true, ()), ()) := by
  obtain ⟨x, e1, d1⟩ := whole_eq a k
  obtain ⟨y, e2, d2⟩ := whole_eq b l
  unfold l_NumberDivision
  simp only [e1, e2, bind_some']
  by_cases hy : y = 0
  · rw [Quo_z hy (by omega) (by omega), bind_some', Rem_z hy (by omega) (by omega), bind_some', t0, txt_beqI, cond_dt hy]
    simp only [beq_self_eq_true, cond_t, awake_eq, bind_some']
  · have a1 := D_quo x y
    have a2 := D_mod x hy
    have a3 := D_mulI y (x / y)
    have a4 := D_abs y
    rw [Quo_t hy (by omega) (by omega), bind_some', Rem_t hy (by omega) (by omega), bind_some', t0, txt_beqI, cond_df hy]
    simp (disch := omega) only [MulI_t, AddI_t, SignI_t, AbsI_t, CmpI_t, bind_some', txt_beqI]
    have f1 : y * (x / y) + x % y = x := Int.mul_ediv_add_emod x y
    have h1 := Int.emod_nonneg x hy
    have h2 := Int.emod_lt x hy
    have f2 : ¬ (x % y).sign < 0 := by
      rcases Int.lt_or_eq_of_le h1 with h | h
      · rw [Int.sign_eq_one_of_pos h]; decide
      · rw [← h]; decide
    have f3 : ¬ (x % y - ((y.natAbs : Nat) : Int)).sign ≥ 0 := by rw [Int.sign_eq_neg_one_of_neg (by omega)]; decide
    rw [decide_eq_true f1]
    simp only [Bool.not_true, cond_f]
    rw [cond_df f2, cond_df f3]
    by_cases h3 : y.sign < 0
    · rw [cond_dt h3, awake_eq]; rfl
    · rw [cond_df h3]
      have hp : 0 < y := by
        rcases Int.lt_trichotomy y 0 with h | h | h
        · exact absurd (by rw [Int.sign_eq_neg_one_of_neg h]; decide) h3
        · exact absurd h hy
        · exact h
      have dd : D ((x : Rat) / (y : Rat)) ≤ 900000 := by
        rw [Rat.div_def]; have := D_mul (x : Rat) (y : Rat)⁻¹; have := D_inv (y : Rat); omega
      rw [Div_t (ne0 hy) (by omega) (by omega), bind_some']
      simp only
      rw [Floor_t dd, bind_some']
      simp only
      have f4 : ((x : Rat) / (y : Rat)).floor = x / y := by
        rw [← Rat.divInt_eq_div]
        have e : Rat.divInt x y = mkRat x y.natAbs := by
          obtain ⟨n, rfl⟩ := Int.eq_ofNat_of_zero_le (Int.le_of_lt hp)
          rw [Rat.divInt_ofNat]; rfl
        rw [e, floor_mk _ _ (by omega), show ((y.natAbs : Nat) : Int) = y by omega]
      rw [f4, txt_beqI, decide_eq_true rfl, cond_t, awake_eq]; rfl
end Go.AM.Num
end
section
set_option linter.unusedVariables false
namespace Go.Proofs.YtollagkikaapjaaGreatDoor.numberDivision
open Go.ChangeShapes Go.WideShapes Go.ChangeAt Go.RowKit Go.AM Go.AM.Num
open Go.ChangeMaps (open_string shut_string)
theorem reads (os : Os) {H : Type} (enc : TypeId × Value → H) : ∃ places, DataW.whole enc Tryz.prog ((laidWorld os).forCall (fun _ _ => 0) ⟨#[], #[.string ByteArray.empty, .string ByteArray.empty, .slice none 0 0, .slice none 0 0], []⟩).memory Tryz.f10.params.toList Rows.numberDivisionSpec.vars false (#[.string ByteArray.empty, .string ByteArray.empty, .slice none 0 0, .slice none 0 0] : Array Value).toList 8 = some ([.lit (.string []), .lit (.string []), .nil, .nil], [], places) :=
  ⟨[], by kernel_rfl⟩
set_option maxRecDepth 100000 in
theorem lifted (os : Os) (started : os.Started) (H : Type) (enc : TypeId × Value → H) (F : Stop.Interp) :
    ReturnsInHanded {} Tryz.checked os 10 .any ((OpenSpec.ofChange Rows.numberDivisionSpec).preRow enc Tryz.prog Tryz.f10 Rows.numberDivisionRow.domain false Rows.numberDivisionRow.laid) (((OpenSpec.ofChange Rows.numberDivisionSpec).at F).post enc Tryz.prog Tryz.f10 false true false false) := by
  obtain ⟨places, hx⟩ := reads os enc
  refine returnsInHanded_of_row (C := Tryz.checked) (s := OpenSpec.ofChange Rows.numberDivisionSpec) Num.own started (by kernel_rfl) Tryz.func10
    (witness_row_atRef (enc := enc) (C := Tryz.checked) false (laidWorld os) #[.string ByteArray.empty, .string ByteArray.empty, .slice none 0 0, .slice none 0 0] rfl (laid_var os _) (laid_drop os _) (by kernel_rfl)
      (OpenSpec.preRow_of_cond 8 hx (by kernel_rfl) (fun k hk => by cases hk) (by kernel_rfl) (laid_met os _))) ?_
  intro W base args ds gs before hval0 hW _ _ _ hL hsh _
  have hval : ∀ (j : Nat) t v, Tryz.f10.params[j]? = some t → args[j]? = some v → Value.okWide Tryz.prog W .any base t v := hval0
  have hW' := hW
  obtain ⟨p, q, hA0, hV, rfl, hfz, hnd⟩ := hW
  have hA : DataW.TrodAll enc Tryz.prog W 0 (fun _ => true) true Tryz.f10.params.toList args.toList ds p := hA0
  rw [Tryz.params10] at hA hval
  obtain ⟨v0, vs0, d0, ds0, p0, q0, hargs, rfl, rfl, h0, r0⟩ := trodAll_cons hA
  obtain ⟨v1, vs1, d1, ds1, p1, q1, rfl, rfl, rfl, h1, r1⟩ := trodAll_cons r0
  obtain ⟨v2, vs2, d2, ds2, p2, q2, rfl, rfl, rfl, h2, r2⟩ := trodAll_cons r1
  obtain ⟨v3, vs3, d3, ds3, p3, q3, rfl, rfl, rfl, h3, r3⟩ := trodAll_cons r2
  obtain ⟨rfl, rfl, rfl⟩ := trodAll_nil r3
  obtain rfl : args = #[v0, v1, v2, v3] := by cases args; simp_all
  obtain ⟨rfl, rfl⟩ := trodVars_none hV
  obtain ⟨a0, rfl, rfl, rfl, y0⟩ := open_string Tryz.underlying9 (hval 0 9 v0 rfl rfl) h0
  obtain ⟨a1, rfl, rfl, rfl, y1⟩ := open_string Tryz.underlying9 (hval 1 9 v1 rfl rfl) h1
  obtain ⟨a2, len2, cap2, rfl⟩ := okWide_slice Tryz.underlying22 (hval 2 22 v2 rfl rfl)
  have k2 := h2
  have lt2 : ∀ x ∈ p2, x.block < W.heap.size := by obtain ⟨m, hm⟩ := k2; exact DataW.trod_lt m _ _ _ hm
  obtain ⟨l2, rfl, hm2, hw2, tv2⟩ := ints_tv Tryz.underlying22 Tryz.underlying3 (by kernel_rfl) h2
  obtain ⟨a3, len3, cap3, rfl⟩ := okWide_slice Tryz.underlying22 (hval 3 22 v3 rfl rfl)
  have k3 := h3
  have lt3 : ∀ x ∈ p3, x.block < W.heap.size := by obtain ⟨m, hm⟩ := k3; exact DataW.trod_lt m _ _ _ hm
  obtain ⟨l3, rfl, hm3, hw3, tv3⟩ := ints_tv Tryz.underlying22 Tryz.underlying3 (by kernel_rfl) h3
  clear hA0 hval0
  have hp := P_NumberDivision a0.data.toList (sl_of y0) a1.data.toList (sl_of y1) l2 (il_of hm2 hw2) l3 (il_of hm3 hw3)
  refine (law_calls G_l_NumberDivision (fun _ => rfl) (a0.data.toList, a1.data.toList, l2, l3, ()) ((true, ()) : tysR [.val .bool]) () hp (fun _ _ _ _ _ h => res_true h) W (gn_of hL hsh) #[.string a0, .string a1, .slice a2 l2.length cap2, .slice a3 l3.length cap3] ⟨_, _, rfl, str_tv' _, ⟨_, _, rfl, str_tv' _, ⟨_, _, rfl, tv2, ⟨_, _, rfl, tv3, rfl⟩⟩⟩⟩).mono fun e W' ⟨he, bel⟩ => ?_
  subst he
  exact ⟨_, rfl, _, _, _, [], _, [], hW', trodAll_mk1 (shut_bool Tryz.underlying4 _), (trodAll_cons_mk (shut_string Tryz.underlying9 y0) (trodAll_cons_mk (shut_string Tryz.underlying9 y1) (trodAll_cons_mk (Below.trod laidOut (by kernel_rfl) (of_decide_eq_true (by kernel_rfl)) k2 bel lt2) (trodAll_cons_mk (Below.trod laidOut (by kernel_rfl) (of_decide_eq_true (by kernel_rfl)) k3 bel lt3) trodAll_mk0)))), rfl, bel.frame _, fun h => by cases h⟩

theorem said : Rows.NumberDivisionSaid :=
  OpenClaim.holds_of_cond 10 Tryz.f10 rfl rfl rfl rfl rfl rfl rfl ⟨rfl, rfl, rfl, rfl, rfl⟩ rfl rfl rfl rfl rfl (by kernel_rfl) Tryz.func10 (by kernel_rfl)
    (of_decide_eq_true (by kernel_rfl)) (by unfold Func.isWrapper; first | (rw [if_pos (by decide +kernel)]; kernel_rfl) | (rw [if_neg (by decide +kernel)]; exact ⟨rfl, rfl⟩))
    (fun os started H enc _ F => by rw [OpenClaim.pre_eq_preRow]; exact lifted os started H enc F)

/-- No parameter wants a stand-in; the program's own looks are on. -/
theorem plain (f : FuncId) (fn : Func) (hf : Tryz.pinned.checked.prog.funcNamed "chcsolver/chcsolverlaw01.NumberDivision" = some f) (hfn : Tryz.pinned.checked.prog.funcs[f]? = some fn) :
    true = Tryz.pinned.checked.prog.looks [] ∧ ∀ (j : Nat) t, fn.params[j]? = some t → Tryz.pinned.checked.prog.wantsStandIn t = false := by
  obtain rfl : f = 10 := Option.some.inj ((show Tryz.prog.funcNamed "chcsolver/chcsolverlaw01.NumberDivision" = some 10 by kernel_rfl).symm.trans hf) |>.symm
  obtain rfl : fn = Tryz.f10 := (Option.some.inj (Tryz.func10.symm.trans hfn)).symm
  refine ⟨by kernel_rfl, fun j t ht => ?_⟩
  rw [Tryz.params10] at ht
  have hm : t ∈ [9, 9, 22, 22] := by simpa using Array.mem_of_getElem? ht
  simp only [List.mem_cons, List.mem_nil_iff, or_false] at hm
  rcases hm with rfl | rfl | rfl | rfl
  · exact (show Tryz.prog.wantsStandIn 9 = false by kernel_rfl)
  · exact (show Tryz.prog.wantsStandIn 9 = false by kernel_rfl)
  · exact (show Tryz.prog.wantsStandIn 22 = false by kernel_rfl)
  · exact (show Tryz.prog.wantsStandIn 22 = false by kernel_rfl)
end Go.Proofs.YtollagkikaapjaaGreatDoor.numberDivision
namespace Go.Proofs.YtollagkikaapjaaGreatDoor
/-- THE CARD of NumberDivision. -/
theorem numberDivision_holds : Rows.NumberDivisionCardSaid :=
  Claim7.holds_tied_plain_at .later [] _ _ _ _ numberDivision.said (fun _ h => by cases h) (by kernel_rfl) (fun _ h => by cases h) numberDivision_row_tie rfl ⟨rfl, rfl⟩ (by kernel_rfl) rfl numberDivision.plain (by kernel_rfl)
end Go.Proofs.YtollagkikaapjaaGreatDoor
end
