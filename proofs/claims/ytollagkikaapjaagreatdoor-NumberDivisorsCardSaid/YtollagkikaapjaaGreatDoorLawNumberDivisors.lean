/- The law holds for every input: its pure part, its row and its card. No condition beyond what each statement says. -/
import Derived.Test.YtollagkikaapjaaGreatDoorR1
import Derived.Test.YtollagkikaapjaaGreatDoorM3
set_option linter.unusedSimpArgs false
set_option linter.unusedVariables false
section
set_option linter.unusedSimpArgs false
set_option linter.unusedVariables false
namespace Go.AM.Num
theorem div_bound (x y : Int) : (x / y).natAbs ≤ x.natAbs + 1 := by
  have := Int.natAbs_ediv_le_natAbs x y
  omega
theorem D_quo (x y : Int) : D ((x / y : Int) : Rat) ≤ D (x : Rat) := by
  rw [D_int, D_int]; have := dd_len_mono (Int.natAbs_ediv_le_natAbs x y); omega
theorem D_mod (x : Int) {y : Int} (hy : y ≠ 0) : D ((x % y : Int) : Rat) ≤ D (y : Rat) := by
  rw [D_int, D_int]
  have h1 := Int.emod_nonneg x hy
  have h2 := Int.emod_lt x hy
  have := dd_len_mono (m := (x % y).natAbs) (n := y.natAbs) (by omega)
  omega
theorem D_mulI (x y : Int) : D ((x * y : Int) : Rat) ≤ D (x : Rat) + D (y : Rat) := by rw [Rat.intCast_mul]; exact D_mul _ _
theorem D_abs (x : Int) : D (((x.natAbs : Nat) : Int) : Rat) = D (x : Rat) := by rw [D_int, D_int]; simp
theorem ne0 {x : Int} (h : x ≠ 0) : (x : Rat) ≠ 0 := fun e => h (by have := congrArg Rat.num e; rw [Rat.num_intCast] at this; exact this)
theorem P_NumberDivision (a : List UInt8) (ha : SL a) (b : List UInt8) (hb : SL b) (k : List Int) (hk : IL k) (l : List Int) (hl : IL l) : l_NumberDivision a b k l = some ((true, ()), ()) := by
  obtain ⟨x, e1, d1⟩ := whole_eq a k
  obtain ⟨y, e2, d2⟩ := whole_eq b l
  unfold l_NumberDivision
  simp only [e1, e2, bind_some']
  by_cases hy : y = 0
  · rw [Quo_z hy (by omega) (by omega), bind_some', Rem_z hy (by omega) (by omega), bind_some', t0, txt_beqI, cond_dt hy]
    simp only [beq_self_eq_true, cond_t, awake_eq, bind_some']
  · have a1 := D_quo x y
    have a2 := D_mod x hy
    have a3 := D_mulI y (x / y)
    have a4 := D_abs y
    rw [Quo_t hy (by omega) (by omega), bind_some', Rem_t hy (by omega) (by omega), bind_some', t0, txt_beqI, cond_df hy]
    simp (disch := omega) only [MulI_t, AddI_t, SignI_t, AbsI_t, CmpI_t, bind_some', txt_beqI]
    have f1 : y * (x / y) + x % y = x := Int.mul_ediv_add_emod x y
    have h1 := Int.emod_nonneg x hy
    have h2 := Int.emod_lt x hy
    have f2 : ¬ (x % y).sign < 0 := by
      rcases Int.lt_or_eq_of_le h1 with h | h
      · rw [Int.sign_eq_one_of_pos h]; decide
      · rw [← h]; decide
    have f3 : ¬ (x % y - ((y.natAbs : Nat) : Int)).sign ≥ 0 := by rw [Int.sign_eq_neg_one_of_neg (by omega)]; decide
    rw [decide_eq_true f1]
    simp only [Bool.not_true, cond_f]
    rw [cond_df f2, cond_df f3]
    by_cases h3 : y.sign < 0
    · rw [cond_dt h3, awake_eq]; rfl
    · rw [cond_df h3]
      have hp : 0 < y := by
        rcases Int.lt_trichotomy y 0 with h | h | h
        · exact absurd (by rw [Int.sign_eq_neg_one_of_neg h]; decide) h3
        · exact absurd h hy
        · exact h
      have dd : D ((x : Rat) / (y : Rat)) ≤ 900000 := by
        rw [Rat.div_def]; have := D_mul (x : Rat) (y : Rat)⁻¹; have := D_inv (y : Rat); omega
      rw [Div_t (ne0 hy) (by omega) (by omega), bind_some']
      simp only
      rw [Floor_t dd, bind_some']
      simp only
      have f4 : ((x : Rat) / (y : Rat)).floor = x / y := by
        rw [← Rat.divInt_eq_div]
        have e : Rat.divInt x y = mkRat x y.natAbs := by
          obtain ⟨n, rfl⟩ := Int.eq_ofNat_of_zero_le (Int.le_of_lt hp)
          rw [Rat.divInt_ofNat]; rfl
        rw [e, floor_mk _ _ (by omega), show ((y.natAbs : Nat) : Int) = y by omega]
      rw [f4, txt_beqI, decide_eq_true rfl, cond_t, awake_eq]; rfl
end Go.AM.Num
end
section
set_option linter.unusedSimpArgs false
set_option linter.unusedVariables false
namespace Go.AM.Num
theorem D_gcd (x y : Int) : D (((Nat.gcd x.natAbs y.natAbs : Nat) : Int) : Rat) ≤ D (x : Rat) + D (y : Rat) := by
  rw [D_int, D_int, D_int, Int.natAbs_natCast]
  by_cases h : x.natAbs = 0
  · rw [h, Nat.gcd_zero_left]; omega
  · have := dd_len_mono (Nat.le_of_dvd (by omega) (Nat.gcd_dvd_left x.natAbs y.natAbs)); omega
theorem D_lcm (x y : Int) : D (((Nat.lcm x.natAbs y.natAbs : Nat) : Int) : Rat) ≤ D (x : Rat) + D (y : Rat) := by
  rw [D_int, D_int, D_int, Int.natAbs_natCast]
  have h1 := dd_len_mul x.natAbs y.natAbs
  have : Nat.lcm x.natAbs y.natAbs ≤ x.natAbs * y.natAbs := Nat.div_le_self _ _
  have := dd_len_mono this
  omega
theorem emod_z {a b : Int} (h : b ∣ a) : a % b = 0 := Int.emod_eq_zero_of_dvd h
theorem P_NumberDivisors (a : List UInt8) (ha : SL a) (b : List UInt8) (hb : SL b) (c : List UInt8) (hc : SL c) (k : List Int) (hk : IL k) (l : List Int) (hl : IL l) (m : List Int) (hm : IL m) : l_NumberDivisors a b c k l m = some ((true, ()), ()) := by
  obtain ⟨x, e1, d1⟩ := whole_eq a k
  obtain ⟨y, e2, d2⟩ := whole_eq b l
  obtain ⟨z, e3, d3⟩ := whole_eq c m
  have a1 := D_gcd x y
  have a2 := D_lcm x y
  have a3 := D_mulI x y
  have a4 := D_mulI x z
  have a5 := D_mulI y z
  have a6 := D_abs z
  have do1 := D_zero
  unfold l_NumberDivisors
  simp (disch := omega) only [e1, e2, e3, bind_some', Gcd_t, t0, txt_beqI, awake_eq, Lcm_t, SignI_t, MulI_t, AbsI_t]
  have q1 : ((Nat.gcd (x * z).natAbs (y * z).natAbs : Nat) : Int) = ((Nat.gcd x.natAbs y.natAbs : Nat) : Int) * ((z.natAbs : Nat) : Int) := by
    rw [Int.natAbs_mul, Int.natAbs_mul, Nat.gcd_mul_right]; simp
  have q2 : ((Nat.gcd x.natAbs y.natAbs : Nat) : Int) * ((Nat.lcm x.natAbs y.natAbs : Nat) : Int) = (((x * y).natAbs : Nat) : Int) := by
    have := Nat.gcd_mul_lcm x.natAbs y.natAbs
    rw [← Int.natCast_mul, this, Int.natAbs_mul]
  rw [q1, q2]
  by_cases hxy : x = 0 ∧ y = 0
  · obtain ⟨rfl, rfl⟩ := hxy
    rfl
  · have hg : Nat.gcd x.natAbs y.natAbs ≠ 0 := fun e => hxy (by have := Nat.eq_zero_of_gcd_eq_zero_left e; have := Nat.eq_zero_of_gcd_eq_zero_right e; omega)
    have hg' : ((Nat.gcd x.natAbs y.natAbs : Nat) : Int) ≠ 0 := by omega
    have s1 : ¬ ((Nat.gcd x.natAbs y.natAbs : Nat) : Int).sign ≤ 0 := by rw [Int.sign_eq_one_of_pos (by omega)]; decide
    have r1 : x % ((Nat.gcd x.natAbs y.natAbs : Nat) : Int) = 0 := emod_z (Int.ofNat_dvd_left.2 (Nat.gcd_dvd_left ..))
    have r2 : y % ((Nat.gcd x.natAbs y.natAbs : Nat) : Int) = 0 := emod_z (Int.ofNat_dvd_left.2 (Nat.gcd_dvd_right ..))
    have r3 : ∀ hz : z ≠ 0, x % z = 0 → y % z = 0 → ((Nat.gcd x.natAbs y.natAbs : Nat) : Int) % z = 0 := fun hz h1 h2 => by
      refine emod_z (Int.natAbs_dvd.1 (Int.ofNat_dvd.2 ?_))
      exact Nat.dvd_gcd (Int.natAbs_dvd_natAbs.2 (Int.dvd_of_emod_eq_zero h1)) (Int.natAbs_dvd_natAbs.2 (Int.dvd_of_emod_eq_zero h2))
    rw [Rem_t hg' (by omega) (by omega), Rem_t hg' (by omega) (by omega), r1, r2]
    have gen : ∀ (X Y G : Int), True := fun _ _ _ => trivial
    by_cases hz : z = 0
    · have nz : ¬ (z ≠ 0) := fun h => h hz
      by_cases hx : x = 0
      · have hy : y ≠ 0 := fun e => hxy ⟨hx, e⟩
        simp only [bind_some', txt_beqI, decide_eq_true hx, decide_eq_false hy, decide_eq_true hz, decide_eq_false s1, cond_t, cond_f, Bool.not_true, Bool.not_false, decide_eq_true (rfl : (0 : Int) = 0), decide_eq_true (rfl : (((x * y).natAbs : Nat) : Int) = (((x * y).natAbs : Nat) : Int))]
        simp
      · simp only [bind_some', txt_beqI, decide_eq_false hx, decide_eq_true hz, decide_eq_false s1, cond_t, cond_f, Bool.not_true, Bool.not_false]
        simp
    · have q3 := Rem_t (x := x) hz (by omega) (by omega)
      have q4 := Rem_t (x := y) hz (by omega) (by omega)
      have q5 := Rem_t (x := ((Nat.gcd x.natAbs y.natAbs : Nat) : Int)) hz (by omega) (by omega)
      have key : ∀ {α : Type} (A B : α), (bif decide (x % z = 0) then bif decide (y % z = 0) then bif !decide (((Nat.gcd x.natAbs y.natAbs : Nat) : Int) % z = 0) then B else A else A else A) = A := by
        intro α A B
        by_cases h1 : x % z = 0
        · by_cases h2 : y % z = 0
          · rw [decide_eq_true h1, decide_eq_true h2, decide_eq_true (r3 hz h1 h2)]; rfl
          · rw [decide_eq_true h1, decide_eq_false h2]; rfl
        · rw [decide_eq_false h1]; rfl
      by_cases hx : x = 0
      · have hy : y ≠ 0 := fun e => hxy ⟨hx, e⟩
        simp only [q3, q4, q5, bind_some', txt_beqI, decide_eq_true hx, decide_eq_false hy, decide_eq_false hz, decide_eq_false s1, cond_t, cond_f, Bool.not_true, Bool.not_false, decide_eq_true rfl, decide_true, key]
      · simp only [q3, q4, q5, bind_some', txt_beqI, decide_eq_false hx, decide_eq_false hz, decide_eq_false s1, cond_t, cond_f, Bool.not_true, Bool.not_false, decide_eq_true rfl, decide_true, key]
end Go.AM.Num
end
section
set_option linter.unusedVariables false
namespace Go.Proofs.YtollagkikaapjaaGreatDoor.numberDivisors
open Go.ChangeShapes Go.WideShapes Go.ChangeAt Go.RowKit Go.AM Go.AM.Num
open Go.ChangeMaps (open_string shut_string)
theorem reads (os : Os) {H : Type} (enc : TypeId × Value → H) : ∃ places, DataW.whole enc Tryz.prog ((laidWorld os).forCall (fun _ _ => 0) ⟨#[], #[.string ByteArray.empty, .string ByteArray.empty, .string ByteArray.empty, .slice none 0 0, .slice none 0 0, .slice none 0 0], []⟩).memory Tryz.f9.params.toList Rows.numberDivisorsSpec.vars false (#[.string ByteArray.empty, .string ByteArray.empty, .string ByteArray.empty, .slice none 0 0, .slice none 0 0, .slice none 0 0] : Array Value).toList 8 = some ([.lit (.string []), .lit (.string []), .lit (.string []), .nil, .nil, .nil], [], places) :=
  ⟨[], by kernel_rfl⟩
set_option maxRecDepth 100000 in
theorem lifted (os : Os) (started : os.Started) (H : Type) (enc : TypeId × Value → H) (F : Stop.Interp) :
    ReturnsInHanded {} Tryz.checked os 9 .any ((OpenSpec.ofChange Rows.numberDivisorsSpec).preRow enc Tryz.prog Tryz.f9 Rows.numberDivisorsRow.domain false Rows.numberDivisorsRow.laid) (((OpenSpec.ofChange Rows.numberDivisorsSpec).at F).post enc Tryz.prog Tryz.f9 false true false false) := by
  obtain ⟨places, hx⟩ := reads os enc
  refine returnsInHanded_of_row (C := Tryz.checked) (s := OpenSpec.ofChange Rows.numberDivisorsSpec) Num.own started (by kernel_rfl) Tryz.func9
    (witness_row_atRef (enc := enc) (C := Tryz.checked) false (laidWorld os) #[.string ByteArray.empty, .string ByteArray.empty, .string ByteArray.empty, .slice none 0 0, .slice none 0 0, .slice none 0 0] rfl (laid_var os _) (laid_drop os _) (by kernel_rfl)
      (OpenSpec.preRow_of_cond 8 hx (by kernel_rfl) (fun k hk => by cases hk) (by kernel_rfl) (laid_met os _))) ?_
  intro W base args ds gs before hval0 hW _ _ _ hL hsh _
  have hval : ∀ (j : Nat) t v, Tryz.f9.params[j]? = some t → args[j]? = some v → Value.okWide Tryz.prog W .any base t v := hval0
  have hW' := hW
  obtain ⟨p, q, hA0, hV, rfl, hfz, hnd⟩ := hW
  have hA : DataW.TrodAll enc Tryz.prog W 0 (fun _ => true) true Tryz.f9.params.toList args.toList ds p := hA0
  rw [Tryz.params9] at hA hval
  obtain ⟨v0, vs0, d0, ds0, p0, q0, hargs, rfl, rfl, h0, r0⟩ := trodAll_cons hA
  obtain ⟨v1, vs1, d1, ds1, p1, q1, rfl, rfl, rfl, h1, r1⟩ := trodAll_cons r0
  obtain ⟨v2, vs2, d2, ds2, p2, q2, rfl, rfl, rfl, h2, r2⟩ := trodAll_cons r1
  obtain ⟨v3, vs3, d3, ds3, p3, q3, rfl, rfl, rfl, h3, r3⟩ := trodAll_cons r2
  obtain ⟨v4, vs4, d4, ds4, p4, q4, rfl, rfl, rfl, h4, r4⟩ := trodAll_cons r3
  obtain ⟨v5, vs5, d5, ds5, p5, q5, rfl, rfl, rfl, h5, r5⟩ := trodAll_cons r4
  obtain ⟨rfl, rfl, rfl⟩ := trodAll_nil r5
  obtain rfl : args = #[v0, v1, v2, v3, v4, v5] := by cases args; simp_all
  obtain ⟨rfl, rfl⟩ := trodVars_none hV
  obtain ⟨a0, rfl, rfl, rfl, y0⟩ := open_string Tryz.underlying9 (hval 0 9 v0 rfl rfl) h0
  obtain ⟨a1, rfl, rfl, rfl, y1⟩ := open_string Tryz.underlying9 (hval 1 9 v1 rfl rfl) h1
  obtain ⟨a2, rfl, rfl, rfl, y2⟩ := open_string Tryz.underlying9 (hval 2 9 v2 rfl rfl) h2
  obtain ⟨a3, len3, cap3, rfl⟩ := okWide_slice Tryz.underlying22 (hval 3 22 v3 rfl rfl)
  have k3 := h3
  have lt3 : ∀ x ∈ p3, x.block < W.heap.size := by obtain ⟨m, hm⟩ := k3; exact DataW.trod_lt m _ _ _ hm
  obtain ⟨l3, rfl, hm3, hw3, tv3⟩ := ints_tv Tryz.underlying22 Tryz.underlying3 (by kernel_rfl) h3
  obtain ⟨a4, len4, cap4, rfl⟩ := okWide_slice Tryz.underlying22 (hval 4 22 v4 rfl rfl)
  have k4 := h4
  have lt4 : ∀ x ∈ p4, x.block < W.heap.size := by obtain ⟨m, hm⟩ := k4; exact DataW.trod_lt m _ _ _ hm
  obtain ⟨l4, rfl, hm4, hw4, tv4⟩ := ints_tv Tryz.underlying22 Tryz.underlying3 (by kernel_rfl) h4
  obtain ⟨a5, len5, cap5, rfl⟩ := okWide_slice Tryz.underlying22 (hval 5 22 v5 rfl rfl)
  have k5 := h5
  have lt5 : ∀ x ∈ p5, x.block < W.heap.size := by obtain ⟨m, hm⟩ := k5; exact DataW.trod_lt m _ _ _ hm
  obtain ⟨l5, rfl, hm5, hw5, tv5⟩ := ints_tv Tryz.underlying22 Tryz.underlying3 (by kernel_rfl) h5
  clear hA0 hval0
  have hp := P_NumberDivisors a0.data.toList (sl_of y0) a1.data.toList (sl_of y1) a2.data.toList (sl_of y2) l3 (il_of hm3 hw3) l4 (il_of hm4 hw4) l5 (il_of hm5 hw5)
  refine (law_calls G_l_NumberDivisors (fun _ => rfl) (a0.data.toList, a1.data.toList, a2.data.toList, l3, l4, l5, ()) ((true, ()) : tysR [.val .bool]) () hp (fun _ _ _ _ _ h => res_true h) W (gn_of hL hsh) #[.string a0, .string a1, .string a2, .slice a3 l3.length cap3, .slice a4 l4.length cap4, .slice a5 l5.length cap5] ⟨_, _, rfl, str_tv' _, ⟨_, _, rfl, str_tv' _, ⟨_, _, rfl, str_tv' _, ⟨_, _, rfl, tv3, ⟨_, _, rfl, tv4, ⟨_, _, rfl, tv5, rfl⟩⟩⟩⟩⟩⟩).mono fun e W' ⟨he, bel⟩ => ?_
  subst he
  exact ⟨_, rfl, _, _, _, [], _, [], hW', trodAll_mk1 (shut_bool Tryz.underlying4 _), (trodAll_cons_mk (shut_string Tryz.underlying9 y0) (trodAll_cons_mk (shut_string Tryz.underlying9 y1) (trodAll_cons_mk (shut_string Tryz.underlying9 y2) (trodAll_cons_mk (Below.trod laidOut (by kernel_rfl) (of_decide_eq_true (by kernel_rfl)) k3 bel lt3) (trodAll_cons_mk (Below.trod laidOut (by kernel_rfl) (of_decide_eq_true (by kernel_rfl)) k4 bel lt4) (trodAll_cons_mk (Below.trod laidOut (by kernel_rfl) (of_decide_eq_true (by kernel_rfl)) k5 bel lt5) trodAll_mk0)))))), rfl, bel.frame _, fun h => by cases h⟩

theorem said : Rows.NumberDivisorsSaid :=
  OpenClaim.holds_of_cond 9 Tryz.f9 rfl rfl rfl rfl rfl rfl rfl ⟨rfl, rfl, rfl, rfl, rfl⟩ rfl rfl rfl rfl rfl (by kernel_rfl) Tryz.func9 (by kernel_rfl)
    (of_decide_eq_true (by kernel_rfl)) (by unfold Func.isWrapper; first | (rw [if_pos (by decide +kernel)]; kernel_rfl) | (rw [if_neg (by decide +kernel)]; exact ⟨rfl, rfl⟩))
    (fun os started H enc _ F => by rw [OpenClaim.pre_eq_preRow]; exact lifted os started H enc F)

/-- No parameter wants a stand-in; the program's own looks are on. -/
theorem plain (f : FuncId) (fn : Func) (hf : Tryz.pinned.checked.prog.funcNamed "chcsolver/chcsolverlaw01.NumberDivisors" = some f) (hfn : Tryz.pinned.checked.prog.funcs[f]? = some fn) :
    true = Tryz.pinned.checked.prog.looks [] ∧ ∀ (j : Nat) t, fn.params[j]? = some t → Tryz.pinned.checked.prog.wantsStandIn t = false := by
  obtain rfl : f = 9 := Option.some.inj ((show Tryz.prog.funcNamed "chcsolver/chcsolverlaw01.NumberDivisors" = some 9 by kernel_rfl).symm.trans hf) |>.symm
  obtain rfl : fn = Tryz.f9 := (Option.some.inj (Tryz.func9.symm.trans hfn)).symm
  refine ⟨by kernel_rfl, fun j t ht => ?_⟩
  rw [Tryz.params9] at ht
  have hm : t ∈ [9, 9, 9, 22, 22, 22] := by simpa using Array.mem_of_getElem? ht
  simp only [List.mem_cons, List.mem_nil_iff, or_false] at hm
  rcases hm with rfl | rfl | rfl | rfl | rfl | rfl
  · exact (show Tryz.prog.wantsStandIn 9 = false by kernel_rfl)
  · exact (show Tryz.prog.wantsStandIn 9 = false by kernel_rfl)
  · exact (show Tryz.prog.wantsStandIn 9 = false by kernel_rfl)
  · exact (show Tryz.prog.wantsStandIn 22 = false by kernel_rfl)
  · exact (show Tryz.prog.wantsStandIn 22 = false by kernel_rfl)
  · exact (show Tryz.prog.wantsStandIn 22 = false by kernel_rfl)
end Go.Proofs.YtollagkikaapjaaGreatDoor.numberDivisors
namespace Go.Proofs.YtollagkikaapjaaGreatDoor
/-- THE CARD of NumberDivisors. -/
theorem numberDivisors_holds : Rows.NumberDivisorsCardSaid :=
  Claim7.holds_tied_plain_at .later [] _ _ _ _ numberDivisors.said (fun _ h => by cases h) (by kernel_rfl) (fun _ h => by cases h) numberDivisors_row_tie rfl ⟨rfl, rfl⟩ (by kernel_rfl) rfl numberDivisors.plain (by kernel_rfl)
end Go.Proofs.YtollagkikaapjaaGreatDoor
end
