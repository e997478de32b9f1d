/- What these functions of plain data are in terms of rational numbers. No condition beyond what each statement says. -/
import Derived.Test.YtollagkikaapjaaGreatDoorM2
import Derived.Lib.SlTrimSet
set_option linter.unusedSimpArgs false
set_option linter.unusedVariables false
section
set_option linter.unusedSimpArgs false
set_option linter.unusedVariables false
namespace Go.AM.Num

theorem dd_len_int {n : Int} : (txt (n : Rat)).length ≤ (dd n.natAbs).length + 1 := by
  rw [txt_int]
  have h1 : (if n < 0 then [(45 : UInt8)] else []).length ≤ 1 := by split <;> simp
  rw [List.length_append]; omega
/-! ### Lcm -/
theorem lcm_abs (x y : Int) (hy : y ≠ 0) : (x * (y / ((Nat.gcd x.natAbs y.natAbs : Nat) : Int))).natAbs = Nat.lcm x.natAbs y.natAbs := by
  have hg : ((Nat.gcd x.natAbs y.natAbs : Nat) : Int) ∣ y := Int.ofNat_dvd_left.2 (Nat.gcd_dvd_right _ _)
  rw [Int.natAbs_mul, Int.natAbs_ediv_of_dvd hg, Int.natAbs_natCast]
  unfold Nat.lcm
  rw [Nat.mul_div_assoc _ (Nat.gcd_dvd_right _ _)]
theorem qabs_int (n : Int) : qabs (n : Rat) = ((n.natAbs : Int) : Rat) := by
  unfold qabs
  rw [Rat.num_intCast]
  split
  · rw [← Rat.intCast_neg]; congr 1; omega
  · congr 1; omega
noncomputable def sLcm : List UInt8 → List UInt8 → List UInt8 := ibin fun x y => dd (Nat.lcm x.natAbs y.natAbs)
theorem lcm_eq {a b : List UInt8} (ha : a.length ≤ 1000000) (hb : b.length ≤ 1000000) : n_Lcm a b = some ((sLcm a b, ()), ()) := by
  have hg := gcd_eq' (a := a) (b := b) (by omega) (by omega)
  unfold n_Lcm sLcm
  cases i1 : isI a with
  | false =>
    have e : sGcd a b = [] := ibin_l i1
    rw [e] at hg
    rw [ibin_l i1]
    simp (disch := (first | omega | (simp only [maxN_eq, List.length_append, List.length_cons, List.length_nil, List.length_set, List.length_replicate, List.length_take, List.length_drop]; omega))) only [hg, grd_tt, grd_and, grd_dec, grd_ne, cond_dt, cond_df, cond_et, cond_ef, cond_nt, cond_nf, w64, wu64, wu32, wu8, tm, td, bind_some', same_ee, same_er, same_re, same_rr, cond_t, cond_f, Bool.not_true, Bool.not_false]
    rfl
  | true =>
    cases i2 : isI b with
    | false =>
      have e : sGcd a b = [] := ibin_r i2
      rw [e] at hg
      rw [ibin_r i2]
      simp (disch := (first | omega | (simp only [maxN_eq, List.length_append, List.length_cons, List.length_nil, List.length_set, List.length_replicate, List.length_take, List.length_drop]; omega))) only [hg, grd_tt, grd_and, grd_dec, grd_ne, cond_dt, cond_df, cond_et, cond_ef, cond_nt, cond_nf, w64, wu64, wu32, wu8, tm, td, bind_some', same_ee, same_er, same_re, same_rr, cond_t, cond_f, Bool.not_true, Bool.not_false]
      rfl
    | true =>
      obtain ⟨x, rfl, _⟩ := isI_true i1
      obtain ⟨y, rfl, _⟩ := isI_true i2
      have e : sGcd (txt (x : Rat)) (txt (y : Rat)) = dd (Nat.gcd x.natAbs y.natAbs) := ibin_int _ _ _
      rw [e] at hg
      rw [ibin_int]
      have z1 : txt ((x : Int) : Rat) = [48] ↔ x = 0 := by rw [txt_eq_zero]; constructor; (intro h; simpa using congrArg Rat.num h); (rintro rfl; rfl)
      have z2 : txt ((y : Int) : Rat) = [48] ↔ y = 0 := by rw [txt_eq_zero]; constructor; (intro h; simpa using congrArg Rat.num h); (rintro rfl; rfl)
      have hne : dd (Nat.gcd x.natAbs y.natAbs) ≠ [] := dd_ne _
      by_cases hx : x = 0
      · subst hx
        simp (disch := (first | omega | (simp only [maxN_eq, List.length_append, List.length_cons, List.length_nil, List.length_set, List.length_replicate, List.length_take, List.length_drop]; omega))) only [hg, beq_ne hne, beq_of (z1.2 rfl), grd_tt, grd_and, grd_dec, grd_ne, cond_dt, cond_df, cond_et, cond_ef, cond_nt, cond_nf, w64, wu64, wu32, wu8, tm, td, bind_some', same_ee, same_er, same_re, same_rr, cond_t, cond_f, Bool.not_true, Bool.not_false]
        simp [dd_zero]
      · have hbx : (txt ((x : Int) : Rat) == [48]) = false := beq_ne (fun h => hx (z1.1 h))
        by_cases hy : y = 0
        · subst hy
          simp (disch := (first | omega | (simp only [maxN_eq, List.length_append, List.length_cons, List.length_nil, List.length_set, List.length_replicate, List.length_take, List.length_drop]; omega))) only [hg, beq_ne hne, hbx, beq_of (z2.2 rfl), grd_tt, grd_and, grd_dec, grd_ne, cond_dt, cond_df, cond_et, cond_ef, cond_nt, cond_nf, w64, wu64, wu32, wu8, tm, td, bind_some', same_ee, same_er, same_re, same_rr, cond_t, cond_f, Bool.not_true, Bool.not_false]
          simp [dd_zero]
        · have hby : (txt ((y : Int) : Rat) == [48]) = false := beq_ne (fun h => hy (z2.1 h))
          obtain ⟨a1, a2⟩ := D_intc ha
          obtain ⟨a3, a4⟩ := D_intc hb
          have hgp : 0 < Nat.gcd x.natAbs y.natAbs := Nat.gcd_pos_of_pos_left _ (by omega)
          have hgl : (dd (Nat.gcd x.natAbs y.natAbs)).length ≤ 1000000 := Nat.le_trans (dd_len_mono (Nat.le_of_dvd (by omega) (Nat.gcd_dvd_left _ _))) a2
          have hq := quo_eq (a := txt (y : Rat)) (b := dd (Nat.gcd x.natAbs y.natAbs)) (by omega) (by omega)
          have hqv : sQuo (txt (y : Rat)) (dd (Nat.gcd x.natAbs y.natAbs)) = txt ((y / ((Nat.gcd x.natAbs y.natAbs : Nat) : Int) : Int) : Rat) := by
            rw [← txt_nat]; unfold sQuo; rw [ibin_int, if_neg (by omega)]
          rw [hqv] at hq
          have hql : (y / ((Nat.gcd x.natAbs y.natAbs : Nat) : Int)).natAbs ≤ y.natAbs := by
            rw [Int.natAbs_ediv_of_dvd (Int.ofNat_dvd_left.2 (Nat.gcd_dvd_right _ _)), Int.natAbs_natCast]
            exact Nat.div_le_self _ _
          have hql2 := dd_len_mono hql
          have hql3 := dd_len_int (n := y / ((Nat.gcd x.natAbs y.natAbs : Nat) : Int))
          have hm := Mul_eq (a := txt (x : Rat)) (b := txt ((y / ((Nat.gcd x.natAbs y.natAbs : Nat) : Int) : Int) : Rat)) (by omega) (by omega)
          rw [bin_txt, ← Rat.intCast_mul] at hm
          have hml := dd_len_int (n := x * (y / ((Nat.gcd x.natAbs y.natAbs : Nat) : Int)))
          have hml2 := dd_len_mul x.natAbs (y / ((Nat.gcd x.natAbs y.natAbs : Nat) : Int)).natAbs
          rw [← Int.natAbs_mul] at hml2
          have hab := abs_eq (a := txt ((x * (y / ((Nat.gcd x.natAbs y.natAbs : Nat) : Int)) : Int) : Rat)) (by omega)
          rw [un_txt, qabs_int, txt_nat, lcm_abs x y hy] at hab
          simp (disch := (first | omega | (simp only [maxN_eq, List.length_append, List.length_cons, List.length_nil, List.length_set, List.length_replicate, List.length_take, List.length_drop]; omega))) only [hg, beq_ne hne, hbx, hby, hq, hm, hab, grd_tt, grd_and, grd_dec, grd_ne, cond_dt, cond_df, cond_et, cond_ef, cond_nt, cond_nf, w64, wu64, wu32, wu8, tm, td, bind_some', same_ee, same_er, same_re, same_rr, cond_t, cond_f, Bool.not_true, Bool.not_false]

/-! ### FromInt, Int -/
theorem itoa_txt (n : Int) : Lib.itoa n = txt (n : Rat) := by
  rw [txt_int]
  unfold Lib.itoa
  by_cases h : n < 0
  · rw [if_pos h, if_pos h]; rfl
  · rw [if_neg h, if_neg h, show n.natAbs = n.toNat by omega]; rfl
theorem fromInt_eq {n : Int} (h : in64 n) : n_FromInt n = some ((txt (n : Rat), ()), ()) := by
  unfold n_FromInt strconv_Itoa
  rw [if_pos h, itoa_txt]; rfl
theorem pu_step (c : UInt8) (s : List UInt8) (acc : Nat) : acc * (10 ^ s.length * 10) + (dig c * 10 ^ s.length + dval s) = (acc * 10 + dig c) * 10 ^ s.length + dval s := by grind
theorem pu_ok (s : List UInt8) (acc : Nat) (hd : AllD s) (h : acc * 10 ^ s.length + dval s < 18446744073709551616) : Lib.parseUint10 acc s = .ok (acc * 10 ^ s.length + dval s) := by
  induction s generalizing acc with
  | nil => simp [Lib.parseUint10, dval]
  | cons c s ih =>
    have hc := hd c (by simp)
    have hp : 1 ≤ 10 ^ s.length := Nat.one_le_pow _ _ (by decide)
    have hdc : c.toNat - 48 = dig c := rfl
    rw [dval_cons, List.length_cons, Nat.pow_succ, pu_step] at h ⊢
    have h1 : (acc * 10 + dig c) * 1 ≤ (acc * 10 + dig c) * 10 ^ s.length := Nat.mul_le_mul_left _ hp
    unfold Lib.parseUint10
    rw [if_pos ⟨hc.1, hc.2⟩, hdc, if_neg (by omega), if_neg (by omega)]
    exact ih _ (fun x hx => hd x (by simp [hx])) h
theorem pu_range (s : List UInt8) (acc : Nat) (hd : AllD s) (ha : acc < 18446744073709551616) (h : 18446744073709551616 ≤ acc * 10 ^ s.length + dval s) : Lib.parseUint10 acc s = .range := by
  induction s generalizing acc with
  | nil => simp [dval] at h; omega
  | cons c s ih =>
    have hc := hd c (by simp)
    have hdc : c.toNat - 48 = dig c := rfl
    rw [dval_cons, List.length_cons, Nat.pow_succ, pu_step] at h
    unfold Lib.parseUint10
    rw [if_pos ⟨hc.1, hc.2⟩, hdc]
    by_cases h2 : 1844674407370955162 ≤ acc
    · rw [if_pos h2]
    · rw [if_neg h2]
      by_cases h3 : 18446744073709551616 ≤ acc * 10 + dig c
      · rw [if_pos h3]
      · rw [if_neg h3]
        exact ih _ (fun x hx => hd x (by simp [hx])) (by omega) h
theorem parseMag_ok {m : Nat} (h : m < 18446744073709551616) : Lib.parseMag (dd m) = .ok m := by
  unfold Lib.parseMag
  have := pu_ok (dd m) 0 (dd_D m) (by rw [dval_dd]; omega)
  rw [dval_dd, Nat.zero_mul, Nat.zero_add] at this
  rw [if_neg (dd_ne m), this]
theorem parseMag_range {m : Nat} (h : 18446744073709551616 ≤ m) : Lib.parseMag (dd m) = .range := by
  unfold Lib.parseMag
  rw [if_neg (dd_ne m), pu_range (dd m) 0 (dd_D m) (by decide) (by rw [dval_dd]; omega)]
theorem atoi_neg {m : Nat} : Lib.atoiAll (45 :: dd m) = if m ≤ 9223372036854775808 then .ok (-(m : Int)) else .range := by
  unfold Lib.atoiAll
  have e : (45 : UInt8).toNat = 45 := rfl
  simp only [e, or_true, if_true, not_true_eq_false, false_and, if_false, true_and]
  by_cases h : m < 18446744073709551616
  · rw [parseMag_ok h]
    by_cases h2 : m ≤ 9223372036854775808
    · simp only [if_pos h2, if_neg (show ¬ 9223372036854775808 < m by omega)]
    · simp only [if_neg h2, if_pos (show 9223372036854775808 < m by omega)]
  · rw [parseMag_range (by omega), if_neg (by omega)]
theorem atoi_pos {m : Nat} : Lib.atoiAll (dd m) = if m < 9223372036854775808 then .ok (m : Int) else .range := by
  by_cases h : m < 18446744073709551616
  · have hm := parseMag_ok h
    cases e : dd m with
    | nil => exact absurd e (dd_ne _)
    | cons c r =>
      have hc := dd_D m c (by rw [e]; simp)
      have h1 : ¬ (c.toNat = 43 ∨ c.toNat = 45) := by have := hc.1; omega
      have h2 : ¬ c.toNat = 45 := by have := hc.1; omega
      unfold Lib.atoiAll
      simp only [if_neg h1]
      rw [← e, hm]
      simp only [h2, not_false_eq_true, true_and, false_and, if_false]
      by_cases h3 : m < 9223372036854775808
      · simp only [if_pos h3, if_neg (show ¬ 9223372036854775808 ≤ m by omega)]
      · simp only [if_neg h3, if_pos (show 9223372036854775808 ≤ m by omega)]
  · have hm := parseMag_range (m := m) (by omega)
    rw [if_neg (by omega)]
    cases e : dd m with
    | nil => exact absurd e (dd_ne _)
    | cons c r =>
      have hc := dd_D m c (by rw [e]; simp)
      have h1 : ¬ (c.toNat = 43 ∨ c.toNat = 45) := by have := hc.1; omega
      unfold Lib.atoiAll
      simp only [if_neg h1]
      rw [← e, hm]
theorem atoi_txt (n : Int) : Lib.atoiAll (txt (n : Rat)) = if -9223372036854775808 ≤ n ∧ n ≤ 9223372036854775807 then .ok n else .range := by
  rw [txt_int]
  by_cases hn : n < 0
  · rw [if_pos hn]
    show Lib.atoiAll (45 :: dd n.natAbs) = _
    rw [atoi_neg]
    by_cases h : -9223372036854775808 ≤ n
    · rw [if_pos (by omega), if_pos ⟨h, by omega⟩]; congr 1; omega
    · rw [if_neg (by omega), if_neg (fun h' => h h'.1)]
  · rw [if_neg hn, List.nil_append, atoi_pos]
    by_cases h : n ≤ 9223372036854775807
    · rw [if_pos (by omega), if_pos ⟨by omega, h⟩]; congr 1; omega
    · rw [if_neg (by omega), if_neg (fun h' => h h'.2)]
noncomputable def sInt (a : List UInt8) : Int × Bool := match rd a with | some q => if q.den = 1 ∧ -9223372036854775808 ≤ q.num ∧ q.num ≤ 9223372036854775807 then (q.num, true) else (0, false) | none => (0, false)
theorem int_eq {a : List UInt8} (ha : a.length ≤ 10000000) : n_Int a = some (((sInt a).1, (sInt a).2, ()), ()) := by
  have h1 := isInt_eq ha
  unfold n_Int
  cases i1 : isI a with
  | false =>
    rw [i1] at h1
    have e : sInt a = (0, false) := by
      unfold sInt isI at *
      cases hr : rd a with
      | none => rfl
      | some q =>
        rw [hr] at i1
        have : q.den ≠ 1 := by simpa using i1
        simp [this]
    rw [e]
    simp (disch := (first | omega | (simp only [maxN_eq, List.length_append, List.length_cons, List.length_nil, List.length_set, List.length_replicate, List.length_take, List.length_drop]; omega))) only [h1, grd_tt, grd_and, grd_dec, grd_ne, cond_dt, cond_df, cond_et, cond_ef, cond_nt, cond_nf, w64, wu64, wu32, wu8, tm, td, bind_some', same_ee, same_er, same_re, same_rr, cond_t, cond_f, Bool.not_true, Bool.not_false]
  | true =>
    rw [i1] at h1
    obtain ⟨x, rfl, hx⟩ := isI_true i1
    have e : sInt (txt (x : Rat)) = if -9223372036854775808 ≤ x ∧ x ≤ 9223372036854775807 then (x, true) else (0, false) := by
      unfold sInt; rw [rd_txt]
      simp only [Rat.den_intCast, Rat.num_intCast, true_and]
    rw [e]
    by_cases h : -9223372036854775808 ≤ x ∧ x ≤ 9223372036854775807
    · have hat : strconv_Atoi (txt (x : Rat)) = some ((x, false, ()), ()) := by
        unfold strconv_Atoi
        rw [if_pos (by omega), atoi_txt, if_pos h]
      rw [if_pos h]
      simp (disch := (first | omega | (simp only [maxN_eq, List.length_append, List.length_cons, List.length_nil, List.length_set, List.length_replicate, List.length_take, List.length_drop]; omega))) only [h1, hat, grd_tt, grd_and, grd_dec, grd_ne, cond_dt, cond_df, cond_et, cond_ef, cond_nt, cond_nf, w64, wu64, wu32, wu8, tm, td, bind_some', same_ee, same_er, same_re, same_rr, cond_t, cond_f, Bool.not_true, Bool.not_false]
    · have hat : strconv_Atoi (txt (x : Rat)) = some ((Lib.atoiSat (txt (x : Rat)), true, ()), ()) := by
        unfold strconv_Atoi
        rw [if_pos (by omega), atoi_txt, if_neg h]
      rw [if_neg h]
      simp (disch := (first | omega | (simp only [maxN_eq, List.length_append, List.length_cons, List.length_nil, List.length_set, List.length_replicate, List.length_take, List.length_drop]; omega))) only [h1, hat, grd_tt, grd_and, grd_dec, grd_ne, cond_dt, cond_df, cond_et, cond_ef, cond_nt, cond_nf, w64, wu64, wu32, wu8, tm, td, bind_some', same_ee, same_er, same_re, same_rr, cond_t, cond_f, Bool.not_true, Bool.not_false]

/-! ### Decimal notation -/
def figs (s : List UInt8) : Prop := s ≠ [] ∧ AllD s
instance (s : List UInt8) : Decidable (AllD s) := by unfold AllD isD; infer_instance
instance (s : List UInt8) : Decidable (figs s) := by unfold figs; infer_instance
theorem digits_contains (c : UInt8) : ([48, 49, 50, 51, 52, 53, 54, 55, 56, 57] : List UInt8).contains c = true ↔ isD c := by
  have h : ∀ n : Fin 256, ([48, 49, 50, 51, 52, 53, 54, 55, 56, 57] : List UInt8).contains (UInt8.ofNat n.1) = true ↔ (48 ≤ n.1 ∧ n.1 ≤ 57) := by decide +kernel
  have := h ⟨c.toNat, c.toNat_lt⟩
  simpa [isD] using this
theorem dropWhile_nil {α : Type} (p : α → Bool) (l : List α) : l.dropWhile p = [] ↔ ∀ c ∈ l, p c = true := by
  induction l with
  | nil => simp
  | cons a l ih =>
    rw [List.dropWhile_cons]
    by_cases h : p a = true
    · rw [if_pos h, ih]; simp [h]
    · rw [if_neg h]; simp [h]
theorem takeWhile_imp {α : Type} (p : α → Bool) (l : List α) : ∀ c ∈ l.takeWhile p, p c = true := by
  induction l with
  | nil => simp
  | cons a l ih =>
    intro c hc
    rw [List.takeWhile_cons] at hc
    by_cases h : p a = true
    · rw [if_pos h] at hc
      rcases List.mem_cons.1 hc with rfl | hc
      · exact h
      · exact ih c hc
    · rw [if_neg h] at hc; simp at hc
theorem trimS_nil (s cs : List UInt8) : Lib.trimS s cs = [] ↔ ∀ c ∈ s, cs.contains c = true := by
  unfold Lib.trimS Lib.trimLeftS Lib.trimRightS
  constructor
  · intro h c hc
    rw [dropWhile_nil] at h
    have hsplit : s.reverse = s.reverse.takeWhile (cs.contains ·) ++ s.reverse.dropWhile (cs.contains ·) := (List.takeWhile_append_dropWhile ..).symm
    have hm : c ∈ s.reverse := by simpa using hc
    rw [hsplit] at hm
    rcases List.mem_append.1 hm with hm | hm
    · exact takeWhile_imp _ _ c hm
    · exact h c (by simpa using hm)
  · intro h
    have : s.reverse.dropWhile (cs.contains ·) = [] := (dropWhile_nil _ _).2 fun c hc => h c (by simpa using hc)
    rw [this]; rfl
theorem figures_eq {s : List UInt8} (hl : s.length ≤ 1000000000) : n_figures s = some ((decide (figs s), ()), ()) := by
  unfold n_figures
  by_cases h0 : s = []
  · subst h0
    have : decide (figs []) = false := decide_eq_false (fun h => h.1 rfl)
    rw [this]; rfl
  · have ht : strings_Trim s [48, 49, 50, 51, 52, 53, 54, 55, 56, 57] = some ((Lib.trimS s [48, 49, 50, 51, 52, 53, 54, 55, 56, 57], ()), ()) := by
      unfold strings_Trim
      rw [if_pos ⟨by omega, by decide, by decide⟩]
    simp (disch := (first | omega | (simp only [maxN_eq, List.length_append, List.length_cons, List.length_nil, List.length_set, List.length_replicate, List.length_take, List.length_drop]; omega))) only [beq_ne h0, ht, grd_tt, grd_and, grd_dec, grd_ne, cond_dt, cond_df, cond_et, cond_ef, cond_nt, cond_nf, w64, wu64, wu32, wu8, tm, td, bind_some', same_ee, same_er, same_re, same_rr, cond_t, cond_f, Bool.not_true, Bool.not_false]
    congr 3
    rw [Bool.eq_iff_iff, beq_iff_eq, trimS_nil, decide_eq_true_iff]
    constructor
    · intro h; exact ⟨h0, fun c hc => (digits_contains c).1 (h c hc)⟩
    · intro h c hc; exact (digits_contains c).2 (h.2 c hc)
/-- Decimal notation parted: the sign, the digits ahead of the point, those behind it. -/
inductive DecParts : List UInt8 → Bool → List UInt8 → Option (List UInt8) → Prop
  | mk {a s : List UInt8} {neg : Bool} (h : a = sgn neg ++ s) (hs : neg = false → ∀ r, s ≠ 45 :: r) {x : List UInt8} {y : Option (List UInt8)}
      (hxy : (y = none ∧ s = x ∧ (46 : UInt8) ∉ s) ∨ (∃ z, y = some z ∧ s = x ++ 46 :: z ∧ (46 : UInt8) ∉ x)) : DecParts a neg x y
noncomputable def sParse (neg : Bool) (x : List UInt8) (y : Option (List UInt8)) : List UInt8 × Bool :=
  if figs x ∧ (∀ z, y = some z → figs z) then (txt (mkRat (sg neg (dval (x ++ y.getD []))) (10 ^ (y.getD []).length)), true) else ([], false)
theorem pow_digits (k : Nat) : dval (49 :: List.replicate k 48) = 10 ^ k ∧ AllD (49 :: List.replicate k 48) := by
  constructor
  · rw [dval_cons]
    have h0 : dval (List.replicate k 48) = 0 := by have := dval_zeros k []; simpa [dval] using this
    rw [h0, List.length_replicate]
    show dig 49 * 10 ^ k + 0 = _
    have : dig 49 = 1 := by decide
    rw [this]; simp
  · intro c hc
    rcases List.mem_cons.1 hc with rfl | hc
    · exact ⟨by decide, by decide⟩
    · rw [List.eq_of_mem_replicate hc]; exact ⟨by decide, by decide⟩
theorem dd_dval_len {s : List UInt8} (h : AllD s) : (dd (dval s)).length ≤ s.length + 1 := by
  have := dval_lt h
  exact dd_lt_len (Nat.lt_of_lt_of_le this (Nat.pow_le_pow_right (by decide) (by omega))) (by omega)
theorem parse_core (neg : Bool) (x z : List UInt8) (hx : AllD x) (hz : AllD z) (hl : x.length + z.length ≤ 1000000) :
    (n_natOf (x ++ z)).bind (fun r5 => (strings_Repeat ([48] : List UInt8) (z.length : Int)).bind fun r6 => grd (decide (([49] : List UInt8).length + r6.1.1.length ≤ maxS)) (
      (n_natOf (([49] : List UInt8) ++ r6.1.1)).bind fun r7 => (n_lowest neg r5.1.1 r7.1.1).bind fun r8 => (n_rat_text (r8.1.1.1, r8.1.1.2.1, r8.1.1.2.2)).bind fun r9 => some ((r9.1.1, true, ()), ()))) =
    some ((txt (mkRat (sg neg (dval (x ++ z))) (10 ^ z.length)), true, ()), ()) := by
  have h1 := natOf_eq (hx.app hz) (by simp; omega)
  have h2 : strings_Repeat [48] (z.length : Int) = some ((List.replicate z.length 48, ()), ()) := by
    unfold strings_Repeat
    have e : ((z.length : Int)).toNat = z.length := by omega
    rw [if_pos ⟨by omega, by omega, by rw [e]; simp; omega⟩, e]
    have := Lib.repeatL_replicate 48 1 z.length
    rw [Nat.mul_one] at this
    rw [← this]; rfl
  obtain ⟨p1, p2⟩ := pow_digits z.length
  have h3 := natOf_eq p2 (by simp; omega)
  rw [p1] at h3
  have l1 := dd_dval_len (hx.app hz)
  have l2 := dd_dval_len p2
  rw [p1] at l2
  simp only [List.length_append, List.length_cons, List.length_replicate] at l1 l2
  obtain ⟨r, hr, hi⟩ := lowest_is neg (dval (x ++ z)) (10 ^ z.length) (by have := Nat.one_le_pow z.length 10 (by decide); omega) (by omega) (by omega)
  have g : ([49] : List UInt8).length + (List.replicate z.length (48 : UInt8)).length ≤ maxS := by rw [maxS_eq]; simp; omega
  have h3' : n_natOf ([49] ++ List.replicate z.length 48) = some ((limbs (10 ^ z.length), ()), ()) := h3
  simp (disch := (first | omega | (simp only [maxN_eq, List.length_append, List.length_cons, List.length_nil, List.length_set, List.length_replicate, List.length_take, List.length_drop]; omega))) only [h1, h2, grd_dec g, h3', hr, hi.text, grd_tt, grd_and, grd_dec, grd_ne, cond_dt, cond_df, cond_et, cond_ef, cond_nt, cond_nf, w64, wu64, wu32, wu8, tm, td, bind_some', same_ee, same_er, same_re, same_rr, cond_t, cond_f, Bool.not_true, Bool.not_false]
theorem parse_eq {a : List UInt8} (ha : a.length ≤ 1000000) : ∃ neg x y, DecParts a neg x y ∧ n_Parse a = some (((sParse neg x y).1, (sParse neg x y).2, ()), ()) := by
  obtain ⟨neg, s, hcp, has, hs⟩ := sign_cut a
  have hsl : s.length ≤ 1000000 := by rw [has, List.length_append] at ha; omega
  rcases split_at 46 s with ⟨x, y, rfl, hx⟩ | hx
  · have hxl : x.length ≤ 1000000 := by rw [List.length_append] at hsl; omega
    have hyl : x.length + y.length ≤ 1000000 := by rw [List.length_append, List.length_cons] at hsl; omega
    have hcut := cut_yes (y := y) hx (by omega)
    refine ⟨neg, x, some y, .mk has hs (.inr ⟨y, rfl, rfl, hx⟩), ?_⟩
    have f1 := figures_eq (s := x) (by omega)
    have f2 := figures_eq (s := y) (by omega)
    unfold n_Parse sParse
    by_cases hf : figs x
    · by_cases hg : figs y
      · rw [if_pos ⟨hf, fun z hz => by cases hz; exact hg⟩]
        have hc := parse_core neg x y hf.2 hg.2 hyl
        have g : x.length + y.length ≤ maxS := by rw [maxS_eq]; omega
        simp only [hcp, hcut, f1, f2, decide_eq_true hf, decide_eq_true hg, bind_some', Bool.not_true, cond_f, cond_t, grd_dec g]
        exact hc
      · rw [if_neg (fun h => hg (h.2 y rfl))]
        simp (disch := (first | omega | (simp only [maxN_eq, List.length_append, List.length_cons, List.length_nil, List.length_set, List.length_replicate, List.length_take, List.length_drop]; omega))) only [hcp, hcut, f1, f2, decide_eq_true hf, decide_eq_false hg, grd_tt, grd_and, grd_dec, grd_ne, cond_dt, cond_df, cond_et, cond_ef, cond_nt, cond_nf, w64, wu64, wu32, wu8, tm, td, bind_some', same_ee, same_er, same_re, same_rr, cond_t, cond_f, Bool.not_true, Bool.not_false]
    · rw [if_neg (fun h => hf h.1)]
      simp (disch := (first | omega | (simp only [maxN_eq, List.length_append, List.length_cons, List.length_nil, List.length_set, List.length_replicate, List.length_take, List.length_drop]; omega))) only [hcp, hcut, f1, decide_eq_false hf, grd_tt, grd_and, grd_dec, grd_ne, cond_dt, cond_df, cond_et, cond_ef, cond_nt, cond_nf, w64, wu64, wu32, wu8, tm, td, bind_some', same_ee, same_er, same_re, same_rr, cond_t, cond_f, Bool.not_true, Bool.not_false]
  · have hcut := cut_no hx (by omega)
    refine ⟨neg, s, none, .mk has hs (.inl ⟨rfl, rfl, hx⟩), ?_⟩
    have f1 := figures_eq (s := s) (by omega)
    unfold n_Parse sParse
    by_cases hf : figs s
    · rw [if_pos ⟨hf, fun z hz => by cases hz⟩]
      have hc := parse_core neg s [] hf.2 (fun c hc => by simp at hc) (by simpa using hsl)
      have g : s.length + ([] : List UInt8).length ≤ maxS := by rw [maxS_eq]; simp; omega
      simp only [hcp, hcut, f1, decide_eq_true hf, bind_some', Bool.not_true, cond_f, cond_t, grd_dec g]
      exact hc
    · rw [if_neg (fun h => hf h.1)]
      simp (disch := (first | omega | (simp only [maxN_eq, List.length_append, List.length_cons, List.length_nil, List.length_set, List.length_replicate, List.length_take, List.length_drop]; omega))) only [hcp, hcut, f1, decide_eq_false hf, grd_tt, grd_and, grd_dec, grd_ne, cond_dt, cond_df, cond_et, cond_ef, cond_nt, cond_nf, w64, wu64, wu32, wu8, tm, td, bind_some', same_ee, same_er, same_re, same_rr, cond_t, cond_f, Bool.not_true, Bool.not_false]
theorem DecParts.unique {a : List UInt8} {n1 n2 : Bool} {x1 x2 : List UInt8} {y1 y2 : Option (List UInt8)} (h1 : DecParts a n1 x1 y1) (h2 : DecParts a n2 x2 y2) : n1 = n2 ∧ x1 = x2 ∧ y1 = y2 := by
  obtain ⟨e1, s1, p1⟩ := h1
  obtain ⟨e2, s2, p2⟩ := h2
  rename_i t1 t2
  have hst : n1 = n2 ∧ t1 = t2 := by
    rw [e1] at e2
    cases n1 <;> cases n2 <;> simp [sgn] at e2 ⊢
    · exact e2
    · exact s1 rfl _ e2
    · exact s2 rfl _ e2.symm
    · exact e2
  obtain ⟨rfl, rfl⟩ := hst
  refine ⟨rfl, ?_⟩
  have app46 : ∀ {a b x y : List UInt8}, (46 : UInt8) ∉ a → (46 : UInt8) ∉ x → a ++ 46 :: b = x ++ 46 :: y → a = x ∧ b = y := by
    intro a
    induction a with
    | nil =>
      intro b x y ha hx h
      cases x with
      | nil => simpa using h
      | cons c x => simp only [List.nil_append, List.cons_append, List.cons.injEq] at h; exact absurd (h.1 ▸ List.mem_cons_self) hx
    | cons c a ih =>
      intro b x y ha hx h
      cases x with
      | nil => simp only [List.nil_append, List.cons_append, List.cons.injEq] at h; exact absurd (h.1 ▸ List.mem_cons_self) ha
      | cons e x =>
        simp only [List.cons_append, List.cons.injEq] at h
        obtain ⟨h1, h2⟩ := ih (fun hm => ha (List.mem_cons_of_mem _ hm)) (fun hm => hx (List.mem_cons_of_mem _ hm)) h.2
        exact ⟨by rw [h.1, h1], h2⟩
  rcases p1 with ⟨rfl, rfl, q1⟩ | ⟨z1, rfl, q1, r1⟩ <;> rcases p2 with ⟨rfl, q2, r2⟩ | ⟨z2, rfl, q2, r2⟩
  · exact ⟨q2, rfl⟩
  · exact absurd (by rw [q2]; simp) q1
  · exact absurd (by rw [q1]; simp) r2
  · rw [q1] at q2
    obtain ⟨e1, e2⟩ := app46 r1 r2 q2
    exact ⟨e1, by rw [e2]⟩
end Go.AM.Num
end
section
set_option linter.unusedSimpArgs false
set_option linter.unusedVariables false
namespace Go.AM.Num

/-! ### digits, trim -/
theorem r_digits_eq {s : List UInt8} (hl : s.length ≤ 1000000000) : r_digits s = some ((decide (figs s), ()), ()) := by
  obtain ⟨r, hr, hq⟩ := loopO_ind (step := r_digits_s2) (Q := fun r => (AllD s ∧ r = (Ex.exit 0, (s, false, (s.length : Int), ()))) ∨ (¬ AllD s ∧ ∃ i, r = (Ex.ret, (s, false, i, ()))))
    (fun m x => ∃ k : Nat, m + k = s.length ∧ x = (s, false, (k : Int), ()) ∧ AllD (s.take k)) (by
      rintro m x ⟨k, hm, rfl, hd⟩
      by_cases hk : k < s.length
      · have hg : s.getD k 0 = s[k] := by rw [List.getD_eq_getElem?_getD, List.getElem?_eq_getElem hk]; rfl
        have e : (k : Int).toNat = k := by omega
        have hmem : s[k] ∈ s := List.getElem_mem hk
        by_cases h1 : s[k].toNat < 48
        · refine .inl ⟨_, ?_, ?_, .inr ⟨fun h => ?_, (k : Int), rfl⟩⟩
          · simp (disch := (first | omega | (simp only [maxN_eq, List.length_append, List.length_cons, List.length_nil, List.length_set, List.length_replicate, List.length_take, List.length_drop]; omega))) only [r_digits_s2, e, hg, grd_tt, grd_and, grd_dec, grd_ne, cond_dt, cond_df, cond_et, cond_ef, cond_nt, cond_nf, w64, wu64, wu32, wu8, tm, td, bind_some', same_ee, same_er, same_re, same_rr, cond_t, cond_f, Bool.not_true, Bool.not_false]
          · simp
          · have := (h _ hmem).1; omega
        · by_cases h2 : s[k].toNat > 57
          · refine .inl ⟨_, ?_, ?_, .inr ⟨fun h => ?_, (k : Int), rfl⟩⟩
            · simp (disch := (first | omega | (simp only [maxN_eq, List.length_append, List.length_cons, List.length_nil, List.length_set, List.length_replicate, List.length_take, List.length_drop]; omega))) only [r_digits_s2, e, hg, grd_tt, grd_and, grd_dec, grd_ne, cond_dt, cond_df, cond_et, cond_ef, cond_nt, cond_nf, w64, wu64, wu32, wu8, tm, td, bind_some', same_ee, same_er, same_re, same_rr, cond_t, cond_f, Bool.not_true, Bool.not_false]
            · simp
            · have := (h _ hmem).2; omega
          · refine .inr ⟨m - 1, _, ?_, by omega, k + 1, by omega, rfl, ?_⟩
            · simp (disch := (first | omega | (simp only [maxN_eq, List.length_append, List.length_cons, List.length_nil, List.length_set, List.length_replicate, List.length_take, List.length_drop]; omega))) only [r_digits_s2, e, hg, grd_tt, grd_and, grd_dec, grd_ne, cond_dt, cond_df, cond_et, cond_ef, cond_nt, cond_nf, w64, wu64, wu32, wu8, tm, td, bind_some', same_ee, same_er, same_re, same_rr, cond_t, cond_f, Bool.not_true, Bool.not_false]
              rfl
            · rw [List.take_succ_eq_append_getElem hk]
              refine hd.app fun c hc => ?_
              rw [List.mem_singleton.1 hc]
              exact ⟨by omega, by omega⟩
      · have hks : k = s.length := by omega
        subst hks
        refine .inl ⟨_, ?_, ?_, .inl ⟨by simpa using hd, rfl⟩⟩
        · simp (disch := (first | omega | (simp only [maxN_eq, List.length_append, List.length_cons, List.length_nil, List.length_set, List.length_replicate, List.length_take, List.length_drop]; omega))) only [r_digits_s2, grd_tt, grd_and, grd_dec, grd_ne, cond_dt, cond_df, cond_et, cond_ef, cond_nt, cond_nf, w64, wu64, wu32, wu8, tm, td, bind_some', same_ee, same_er, same_re, same_rr, cond_t, cond_f, Bool.not_true, Bool.not_false]
        · simp) s.length (s, false, 0, ()) ⟨0, by omega, rfl, by simp [AllD]⟩
  unfold r_digits
  rw [hr]
  rcases hq with ⟨hd, rfl⟩ | ⟨hd, i, rfl⟩
  · simp (disch := (first | omega | (simp only [maxN_eq, List.length_append, List.length_cons, List.length_nil, List.length_set, List.length_replicate, List.length_take, List.length_drop]; omega))) only [grd_tt, grd_and, grd_dec, grd_ne, cond_dt, cond_df, cond_et, cond_ef, cond_nt, cond_nf, w64, wu64, wu32, wu8, tm, td, bind_some', same_ee, same_er, same_re, same_rr, cond_t, cond_f, Bool.not_true, Bool.not_false]
    by_cases h0 : s = []
    · subst h0
      have : decide (figs []) = false := decide_eq_false (fun h => h.1 rfl)
      rw [this]; rfl
    · rw [beq_ne h0, decide_eq_true (show figs s from ⟨h0, hd⟩)]; rfl
  · simp (disch := (first | omega | (simp only [maxN_eq, List.length_append, List.length_cons, List.length_nil, List.length_set, List.length_replicate, List.length_take, List.length_drop]; omega))) only [grd_tt, grd_and, grd_dec, grd_ne, cond_dt, cond_df, cond_et, cond_ef, cond_nt, cond_nf, w64, wu64, wu32, wu8, tm, td, bind_some', same_ee, same_er, same_re, same_rr, cond_t, cond_f, Bool.not_true, Bool.not_false]
    rw [decide_eq_false (fun h => hd h.2)]
theorem trim_dval {s : List UInt8} (hd : AllD s) (hne : s ≠ []) (hl : s.length ≤ 1000000000) : r_trim s = some ((dd (dval s), ()), ()) := by
  obtain ⟨r, hr, rfl⟩ := loopO_ind (step := r_trim_s1) (Q := fun r => r = (Ex.exit 0, (dd (dval s), ())))
    (fun m x => ∃ t : List UInt8, x = (t, ()) ∧ m = t.length ∧ AllD t ∧ t ≠ [] ∧ dval t = dval s ∧ t.length ≤ 1000000000) (by
      rintro m x ⟨t, rfl, hm, h1, h2, h3, h4⟩
      cases t with
      | nil => exact absurd rfl h2
      | cons c t =>
        have h00 : ((0 : Int)).toNat = 0 := rfl
        have h11 : ((1 : Int)).toNat = 1 := rfl
        have hg : (c :: t : List UInt8).getD 0 0 = c := rfl
        have hlen : (c :: t).length = t.length + 1 := rfl
        by_cases ht : t = []
        · subst ht
          refine .inl ⟨(Ex.exit 0, ([c], ())), ?_, by simp, ?_⟩
          · simp only [r_trim_s1]
            rw [cond_df (by simp)]
          · rw [← h3, ← dd_of h1 h2 (by
              by_cases hc : c = 48
              · left; rw [hc]
              · right; simpa using hc)]
        · have hpos : 0 < t.length := List.length_pos_iff.2 ht
          by_cases hc : c = 48
          · subst hc
            refine .inr ⟨t.length, (t, ()), ?_, by omega, t, rfl, rfl, fun x hx => h1 x (by simp [hx]), ht, ?_, by omega⟩
            · have h48 : (((48 : UInt8).toNat : Nat) : Int) = 48 := rfl
              simp only [r_trim_s1]
              rw [cond_dt (by omega), grd_and, grd_dec (by omega), grd_dec (by omega), h00, hg, h48]
              rw [cond_et rfl, grd_and, grd_dec (by omega), grd_dec (by omega), h11]; rfl
            · rw [← h3, dval_cons]; simp [dig]
          · refine .inl ⟨(Ex.exit 0, (c :: t, ())), ?_, by simp, ?_⟩
            · have hne' : ((c.toNat : Nat) : Int) ≠ 48 := fun e => hc (UInt8.toNat_inj.1 (by show c.toNat = 48; omega))
              simp only [r_trim_s1]
              rw [cond_dt (by omega), grd_and, grd_dec (by omega), grd_dec (by omega), h00, hg, cond_ef hne']
            · rw [← h3, ← dd_of h1 h2 (.inr (by simpa using hc))]) s.length (s, ()) ⟨s, rfl, rfl, hd, hne, rfl, hl⟩
  unfold r_trim
  rw [hr]
  simp (disch := (first | omega | (simp only [maxN_eq, List.length_append, List.length_cons, List.length_nil, List.length_set, List.length_replicate, List.length_take, List.length_drop]; omega))) only [grd_tt, grd_and, grd_dec, grd_ne, cond_dt, cond_df, cond_et, cond_ef, cond_nt, cond_nf, w64, wu64, wu32, wu8, tm, td, bind_some', same_ee, same_er, same_re, same_rr, cond_t, cond_f, Bool.not_true, Bool.not_false]

/-! ### Comparison -/
theorem bytesLess_dval {a b : List UInt8} (ha : AllD a) (hb : AllD b) (hl : a.length = b.length) : strLt a b = decide (dval a < dval b) := by
  unfold strLt
  induction a generalizing b with
  | nil =>
    cases b with
    | nil => simp [Op.bytesLess, dval]
    | cons c b => simp at hl
  | cons x a ih =>
    cases b with
    | nil => simp at hl
    | cons y b =>
      have hx := ha x (by simp)
      have hy := hb y (by simp)
      have hA : AllD a := fun c hc => ha c (by simp [hc])
      have hB : AllD b := fun c hc => hb c (by simp [hc])
      have hl' : a.length = b.length := by simpa using hl
      have la := dval_lt hA
      have lb := dval_lt hB
      rw [dval_cons, dval_cons, hl']
      rw [hl'] at la
      have ih' := ih hA hB hl'
      have hdx : dig x = x.toNat - 48 := rfl
      have hdy : dig y = y.toNat - 48 := rfl
      have := hx.1
      have := hy.1
      rcases Nat.lt_trichotomy x.toNat y.toNat with h | h | h
      · have h1 : (dig x + 1) * 10 ^ b.length ≤ dig y * 10 ^ b.length := Nat.mul_le_mul_right _ (by omega)
        rw [Nat.add_mul] at h1
        rw [decide_eq_true (by omega)]
        unfold Op.bytesLess
        have : x < y := UInt8.lt_iff_toNat_lt.2 h
        simp [this]
      · have hxy : x = y := UInt8.toNat_inj.1 h
        subst hxy
        unfold Op.bytesLess
        have h1 : ¬ x < x := fun e => Nat.lt_irrefl _ (UInt8.lt_iff_toNat_lt.1 e)
        simp only [h1, if_false]
        rw [ih']
        simp
      · have h1 : (dig y + 1) * 10 ^ b.length ≤ dig x * 10 ^ b.length := Nat.mul_le_mul_right _ (by omega)
        rw [Nat.add_mul] at h1
        rw [decide_eq_false (by omega)]
        unfold Op.bytesLess
        have h2 : ¬ x < y := fun e => by have := UInt8.lt_iff_toNat_lt.1 e; omega
        have h3 : x ≠ y := fun e => by rw [e] at h; omega
        simp [h2, h3]
theorem r_cmp_eq (m n : Nat) : ∃ c, r_cmpMag (dd m) (dd n) = some ((c, ()), ()) ∧ (c < 0 ↔ m < n) ∧ (c = 0 ↔ m = n) := by
  unfold r_cmpMag
  rcases Nat.lt_trichotomy (dd m).length (dd n).length with h | h | h
  · have hlt : m < n := by
      rcases Nat.lt_or_ge m n with h' | h'
      · exact h'
      · have := dd_len_mono h'; omega
    refine ⟨-1, ?_, by omega, by omega⟩
    simp (disch := (first | omega | (simp only [maxN_eq, List.length_append, List.length_cons, List.length_nil, List.length_set, List.length_replicate, List.length_take, List.length_drop]; omega))) only [grd_tt, grd_and, grd_dec, grd_ne, cond_dt, cond_df, cond_et, cond_ef, cond_nt, cond_nf, w64, wu64, wu32, wu8, tm, td, bind_some', same_ee, same_er, same_re, same_rr, cond_t, cond_f, Bool.not_true, Bool.not_false]
  · have hs := bytesLess_dval (dd_D m) (dd_D n) h
    rw [dval_dd, dval_dd] at hs
    rcases Nat.lt_trichotomy m n with h' | h' | h'
    · refine ⟨-1, ?_, by omega, by omega⟩
      simp (disch := (first | omega | (simp only [maxN_eq, List.length_append, List.length_cons, List.length_nil, List.length_set, List.length_replicate, List.length_take, List.length_drop]; omega))) only [hs, decide_eq_true h', grd_tt, grd_and, grd_dec, grd_ne, cond_dt, cond_df, cond_et, cond_ef, cond_nt, cond_nf, w64, wu64, wu32, wu8, tm, td, bind_some', same_ee, same_er, same_re, same_rr, cond_t, cond_f, Bool.not_true, Bool.not_false]
    · subst h'
      refine ⟨0, ?_, by omega, by omega⟩
      simp (disch := (first | omega | (simp only [maxN_eq, List.length_append, List.length_cons, List.length_nil, List.length_set, List.length_replicate, List.length_take, List.length_drop]; omega))) only [hs, decide_eq_false (Nat.lt_irrefl m), beq_of rfl, grd_tt, grd_and, grd_dec, grd_ne, cond_dt, cond_df, cond_et, cond_ef, cond_nt, cond_nf, w64, wu64, wu32, wu8, tm, td, bind_some', same_ee, same_er, same_re, same_rr, cond_t, cond_f, Bool.not_true, Bool.not_false]
    · refine ⟨1, ?_, by omega, by omega⟩
      have hne : dd m ≠ dd n := fun e => by have := dd_inj e; omega
      simp (disch := (first | omega | (simp only [maxN_eq, List.length_append, List.length_cons, List.length_nil, List.length_set, List.length_replicate, List.length_take, List.length_drop]; omega))) only [hs, decide_eq_false (show ¬ m < n by omega), beq_ne hne, grd_tt, grd_and, grd_dec, grd_ne, cond_dt, cond_df, cond_et, cond_ef, cond_nt, cond_nf, w64, wu64, wu32, wu8, tm, td, bind_some', same_ee, same_er, same_re, same_rr, cond_t, cond_f, Bool.not_true, Bool.not_false]
  · have hlt : n < m := by
      rcases Nat.lt_or_ge n m with h' | h'
      · exact h'
      · have := dd_len_mono h'; omega
    have hne : dd m ≠ dd n := fun e => by have := dd_inj e; omega
    refine ⟨1, ?_, by omega, by omega⟩
    simp (disch := (first | omega | (simp only [maxN_eq, List.length_append, List.length_cons, List.length_nil, List.length_set, List.length_replicate, List.length_take, List.length_drop]; omega))) only [beq_ne hne, grd_tt, grd_and, grd_dec, grd_ne, cond_dt, cond_df, cond_et, cond_ef, cond_nt, cond_nf, w64, wu64, wu32, wu8, tm, td, bind_some', same_ee, same_er, same_re, same_rr, cond_t, cond_f, Bool.not_true, Bool.not_false]

/-! ### Sums and differences -/
/-- The value of the last i digits. -/
def sfx (a : List UInt8) (i : Nat) : Nat := dval (a.drop (a.length - i))
theorem sfx_zero (a : List UInt8) : sfx a 0 = 0 := by unfold sfx; rw [Nat.sub_zero, List.drop_length]; rfl
theorem sfx_all {a : List UInt8} {i : Nat} (h : a.length ≤ i) : sfx a i = dval a := by unfold sfx; rw [Nat.sub_eq_zero_of_le h, List.drop_zero]
theorem sfx_succ {a : List UInt8} {i : Nat} (h : i < a.length) : sfx a (i + 1) = dig (a[a.length - 1 - i]'(by omega)) * 10 ^ i + sfx a i := by
  unfold sfx
  rw [show a.length - (i + 1) = a.length - 1 - i by omega, List.drop_eq_getElem_cons (by omega), dval_cons, List.length_drop, show a.length - 1 - i + 1 = a.length - i by omega, show a.length - (a.length - i) = i by omega]
theorem drop_set {α : Type} {l : List α} {i : Nat} (h : i < l.length) (c : α) : (l.set i c).drop i = c :: l.drop (i + 1) := by
  rw [List.drop_eq_getElem_cons (by simpa using h), List.getElem_set_self, List.drop_set_of_lt (by omega)]
def codes (s : List UInt8) : List Int := s.map fun b => (b.toNat : Int)
theorem codes_back (s : List UInt8) : (codes s).map (fun n => UInt8.ofNat n.toNat) = s := by
  unfold codes
  rw [List.map_map]
  conv => rhs; rw [← List.map_id s]
  apply List.map_congr_left
  intro b _
  simp
theorem code_of {k : Int} (h : 0 ≤ k ∧ k < 10) : ∃ c : UInt8, (c.toNat : Int) = 48 + k ∧ isD c ∧ (dig c : Int) = k := by
  obtain ⟨n, rfl⟩ : ∃ n : Nat, k = n := ⟨k.toNat, by omega⟩
  obtain ⟨h1, h2⟩ := dig_of (k := n) (by omega)
  refine ⟨UInt8.ofNat (48 + n), ?_, h2, by rw [h1]⟩
  have h3 := h2.1
  have h4 : dig (UInt8.ofNat (48 + n)) = (UInt8.ofNat (48 + n)).toNat - 48 := rfl
  omega
theorem AllD.cons {c : UInt8} {s : List UInt8} (h : isD c) (hs : AllD s) : AllD (c :: s) := fun x hx => (List.mem_cons.1 hx).elim (fun e => e ▸ h) (hs x)
theorem ten_pos (i : Nat) : 0 < 10 ^ i := Nat.pow_pos (by decide)
theorem getD_u8 {s : List UInt8} {k : Nat} (h : k < s.length) : s.getD k 0 = s[k] := by rw [List.getD_eq_getElem?_getD, List.getElem?_eq_getElem h]; rfl

set_option maxHeartbeats 2000000 in
theorem r_add_eq (m n : Nat) (hm : (dd m).length ≤ 100000000) (hn : (dd n).length ≤ 100000000) : r_addMag (dd m) (dd n) = some ((dd (m + n), ()), ()) := by
  obtain ⟨a, ha⟩ : ∃ a, a = dd m := ⟨_, rfl⟩
  obtain ⟨b, hb⟩ : ∃ b, b = dd n := ⟨_, rfl⟩
  have hda : AllD a := ha ▸ dd_D m
  have hdb : AllD b := hb ▸ dd_D n
  rw [← ha, ← hb]
  rw [← ha] at hm
  rw [← hb] at hn
  obtain ⟨N, hN⟩ : ∃ N, N = max a.length b.length + 1 := ⟨_, rfl⟩
  have hmx := maxA_len a.length b.length
  have hw : IntKind.i64.wrap (maxA (a.length : Int) (b.length : Int) + 1) = (N : Int) := by rw [hmx, w64 (by omega)]; omega
  obtain ⟨r, hr, s, rfl, h1, h2, h3⟩ := loopO_ind (step := r_addMag_s5) (Q := fun r => ∃ s : List UInt8, r = (Ex.exit 0, (a, b, (N : Int), codes s, 0, (N : Int), ())) ∧ AllD s ∧ s.length = N ∧ dval s = dval a + dval b)
    (fun k x => ∃ (i : Nat) (out : List Int) (c : Int) (s : List UInt8), x = (a, b, (N : Int), out, c, (i : Int), ()) ∧ k + i = N ∧ out.length = N ∧ (0 ≤ c ∧ c ≤ 1) ∧ out.drop (N - i) = codes s ∧ AllD s ∧ s.length = i ∧ (dval s : Int) + c * 10 ^ i = (sfx a i : Int) + sfx b i) (by
      rintro k x ⟨i, out, c, s, rfl, hk, hol, hc, hds, hs, hsl, hv⟩
      by_cases hi : i < N
      · have hix : ((N : Int) - 1 - i).toNat = N - 1 - i := by omega
        have hax : ((a.length : Int) - 1 - i).toNat = a.length - 1 - i := by omega
        have hbx : ((b.length : Int) - 1 - i).toNat = b.length - 1 - i := by omega
        -- one digit more
        have go : ∀ v : Int, (0 ≤ v ∧ v < 20) → (v * 10 ^ i + ((sfx a i : Int) + sfx b i) = c * 10 ^ i + ((sfx a (i + 1) : Int) + sfx b (i + 1))) →
            r_addMag_s5 (a, b, (N : Int), out, c, (i : Int), ()) = some (Ex.normal, (a, b, (N : Int), out.set (N - 1 - i) (48 + v % 10), v / 10, (i : Int) + 1, ())) →
            ∃ m y, r_addMag_s5 (a, b, (N : Int), out, c, (i : Int), ()) = some (Ex.normal, y) ∧ m < k ∧ ∃ (i : Nat) (out : List Int) (c : Int) (s : List UInt8), y = (a, b, (N : Int), out, c, (i : Int), ()) ∧ m + i = N ∧ out.length = N ∧ (0 ≤ c ∧ c ≤ 1) ∧ out.drop (N - i) = codes s ∧ AllD s ∧ s.length = i ∧ (dval s : Int) + c * 10 ^ i = (sfx a i : Int) + sfx b i := by
          intro v hv1 hv2 hst
          obtain ⟨d, hd1, hd2, hd3⟩ := code_of (k := v % 10) (by omega)
          refine ⟨k - 1, _, hst, by omega, i + 1, _, _, d :: s, rfl, by omega, by simpa using hol, by omega, ?_, hs.cons hd2, by simp [hsl], ?_⟩
          · rw [show N - (i + 1) = N - 1 - i by omega, drop_set (by omega), show N - 1 - i + 1 = N - i by omega, hds, ← hd1]; rfl
          · rw [dval_cons, hsl, Int.natCast_add, Int.natCast_mul, hd3, Int.pow_succ]
            have := Int.emod_add_mul_ediv v 10
            push_cast
            grind
        by_cases hia : i < a.length
        · have hga := getD_u8 (s := a) (k := a.length - 1 - i) (by omega)
          have hdA := hda (a[a.length - 1 - i]'(by omega)) (List.getElem_mem _)
          have hsa := sfx_succ hia
          obtain ⟨A, hA⟩ : ∃ A, A = a[a.length - 1 - i]'(by omega) := ⟨_, rfl⟩
          rw [← hA] at hga hdA hsa
          have hA1 := hdA.1
          have hA2 := hdA.2
          have hAd : (dig A : Int) = (A.toNat : Int) - 48 := by unfold dig; omega
          by_cases hib : i < b.length
          · have hgb := getD_u8 (s := b) (k := b.length - 1 - i) (by omega)
            have hdB := hdb (b[b.length - 1 - i]'(by omega)) (List.getElem_mem _)
            have hsb := sfx_succ hib
            obtain ⟨B, hB⟩ : ∃ B, B = b[b.length - 1 - i]'(by omega) := ⟨_, rfl⟩
            rw [← hB] at hgb hdB hsb
            have hB1 := hdB.1
            have hB2 := hdB.2
            have hBd : (dig B : Int) = (B.toNat : Int) - 48 := by unfold dig; omega
            refine .inr (go (c + ((A.toNat : Int) - 48) + ((B.toNat : Int) - 48)) (by omega) (by rw [hsa, hsb]; push_cast; rw [hAd, hBd]; grind) ?_)
            simp (disch := (first | omega | (simp only [maxN_eq, List.length_append, List.length_cons, List.length_nil, List.length_set, List.length_replicate, List.length_take, List.length_drop]; omega))) only [r_addMag_s5, hix, hax, hbx, hga, hgb, grd_tt, grd_and, grd_dec, grd_ne, cond_dt, cond_df, cond_et, cond_ef, cond_nt, cond_nf, w64, wu64, wu32, wu8, tm, td, bind_some', same_ee, same_er, same_re, same_rr, cond_t, cond_f, Bool.not_true, Bool.not_false]
          · have hsb : sfx b (i + 1) = sfx b i := by rw [sfx_all (by omega), sfx_all (by omega)]
            refine .inr (go (c + ((A.toNat : Int) - 48)) (by omega) (by rw [hsa, hsb]; push_cast; rw [hAd]; grind) ?_)
            simp (disch := (first | omega | (simp only [maxN_eq, List.length_append, List.length_cons, List.length_nil, List.length_set, List.length_replicate, List.length_take, List.length_drop]; omega))) only [r_addMag_s5, hix, hax, hga, grd_tt, grd_and, grd_dec, grd_ne, cond_dt, cond_df, cond_et, cond_ef, cond_nt, cond_nf, w64, wu64, wu32, wu8, tm, td, bind_some', same_ee, same_er, same_re, same_rr, cond_t, cond_f, Bool.not_true, Bool.not_false]
        · have hsa : sfx a (i + 1) = sfx a i := by rw [sfx_all (by omega), sfx_all (by omega)]
          by_cases hib : i < b.length
          · have hgb := getD_u8 (s := b) (k := b.length - 1 - i) (by omega)
            have hdB := hdb (b[b.length - 1 - i]'(by omega)) (List.getElem_mem _)
            have hsb := sfx_succ hib
            obtain ⟨B, hB⟩ : ∃ B, B = b[b.length - 1 - i]'(by omega) := ⟨_, rfl⟩
            rw [← hB] at hgb hdB hsb
            have hB1 := hdB.1
            have hB2 := hdB.2
            have hBd : (dig B : Int) = (B.toNat : Int) - 48 := by unfold dig; omega
            refine .inr (go (c + ((B.toNat : Int) - 48)) (by omega) (by rw [hsa, hsb]; push_cast; rw [hBd]; grind) ?_)
            simp (disch := (first | omega | (simp only [maxN_eq, List.length_append, List.length_cons, List.length_nil, List.length_set, List.length_replicate, List.length_take, List.length_drop]; omega))) only [r_addMag_s5, hix, hbx, hgb, grd_tt, grd_and, grd_dec, grd_ne, cond_dt, cond_df, cond_et, cond_ef, cond_nt, cond_nf, w64, wu64, wu32, wu8, tm, td, bind_some', same_ee, same_er, same_re, same_rr, cond_t, cond_f, Bool.not_true, Bool.not_false]
          · have hsb : sfx b (i + 1) = sfx b i := by rw [sfx_all (by omega), sfx_all (by omega)]
            refine .inr (go c (by omega) (by rw [hsa, hsb]) ?_)
            simp (disch := (first | omega | (simp only [maxN_eq, List.length_append, List.length_cons, List.length_nil, List.length_set, List.length_replicate, List.length_take, List.length_drop]; omega))) only [r_addMag_s5, hix, grd_tt, grd_and, grd_dec, grd_ne, cond_dt, cond_df, cond_et, cond_ef, cond_nt, cond_nf, w64, wu64, wu32, wu8, tm, td, bind_some', same_ee, same_er, same_re, same_rr, cond_t, cond_f, Bool.not_true, Bool.not_false]
      · have hiN : i = N := by omega
        subst hiN
        rw [Nat.sub_self, List.drop_zero] at hds
        rw [sfx_all (by omega), sfx_all (by omega)] at hv
        have hla := dval_lt hda
        have hlb := dval_lt hdb
        have hp1 : 10 ^ a.length ≤ 10 ^ (max a.length b.length) := Nat.pow_le_pow_right (by decide) (by omega)
        have hp2 : 10 ^ b.length ≤ 10 ^ (max a.length b.length) := Nat.pow_le_pow_right (by decide) (by omega)
        have hpN : 10 ^ i = 10 * 10 ^ (max a.length b.length) := by rw [hN, Nat.pow_succ, Nat.mul_comm]
        have hc0 : c = 0 := by
          rcases (show c = 0 ∨ c = 1 by omega) with h | h
          · exact h
          · exfalso
            rw [h, show ((10 : Int) ^ i) = ((10 ^ i : Nat) : Int) by push_cast; rfl] at hv
            omega
        subst hc0
        refine .inl ⟨(Ex.exit 0, (a, b, (i : Int), codes s, 0, (i : Int), ())), ?_, by simp, s, rfl, hs, hsl, by omega⟩
        rw [← hds]
        simp (disch := (first | omega | (simp only [maxN_eq, List.length_append, List.length_cons, List.length_nil, List.length_set, List.length_replicate, List.length_take, List.length_drop]; omega))) only [r_addMag_s5, grd_tt, grd_and, grd_dec, grd_ne, cond_dt, cond_df, cond_et, cond_ef, cond_nt, cond_nf, w64, wu64, wu32, wu8, tm, td, bind_some', same_ee, same_er, same_re, same_rr, cond_t, cond_f, Bool.not_true, Bool.not_false]) N (a, b, (N : Int), List.replicate ((N : Int)).toNat 0, 0, 0, ()) ⟨0, _, 0, [], rfl, by omega, by simp, by omega, by simp [codes], by simp [AllD], rfl, by rw [sfx_zero, sfx_zero]; simp [dval]⟩
  have ht := trim_dval h1 (fun e => by rw [e] at h2; simp at h2; omega) (by omega)
  rw [h3] at ht
  have hva : dval a = m := by rw [ha, dval_dd]
  have hvb : dval b = n := by rw [hb, dval_dd]
  rw [hva, hvb] at ht
  unfold r_addMag
  simp only [hw]
  rw [hr]
  simp (disch := (first | omega | (simp only [maxN_eq, List.length_append, List.length_cons, List.length_nil, List.length_set, List.length_replicate, List.length_take, List.length_drop]; omega))) only [codes_back, ht, grd_tt, grd_and, grd_dec, grd_ne, cond_dt, cond_df, cond_et, cond_ef, cond_nt, cond_nf, w64, wu64, wu32, wu8, tm, td, bind_some', same_ee, same_er, same_re, same_rr, cond_t, cond_f, Bool.not_true, Bool.not_false]
end Go.AM.Num
end
section
set_option linter.unusedSimpArgs false
set_option linter.unusedVariables false
namespace Go.AM.Num

set_option maxHeartbeats 2000000 in
theorem r_sub_eq (m n : Nat) (hm : (dd m).length ≤ 100000000) (hle : n ≤ m) : r_subMag (dd m) (dd n) = some ((dd (m - n), ()), ()) := by
  obtain ⟨a, ha⟩ : ∃ a, a = dd m := ⟨_, rfl⟩
  obtain ⟨b, hb⟩ : ∃ b, b = dd n := ⟨_, rfl⟩
  have hda : AllD a := ha ▸ dd_D m
  have hdb : AllD b := hb ▸ dd_D n
  have hbl : b.length ≤ a.length := by rw [ha, hb]; exact dd_len_mono hle
  have hane : a ≠ [] := ha ▸ dd_ne m
  rw [← ha, ← hb]
  rw [← ha] at hm
  have hva : dval a = m := by rw [ha, dval_dd]
  have hvb : dval b = n := by rw [hb, dval_dd]
  obtain ⟨N, hN⟩ : ∃ N, N = a.length := ⟨_, rfl⟩
  obtain ⟨r, hr, s, rfl, h1, h2, h3⟩ := loopO_ind (step := r_subMag_s4) (Q := fun r => ∃ s : List UInt8, r = (Ex.exit 0, (a, b, codes s, 0, (N : Int), ())) ∧ AllD s ∧ s.length = N ∧ dval s = m - n)
    (fun k x => ∃ (i : Nat) (out : List Int) (c : Int) (s : List UInt8), x = (a, b, out, c, (i : Int), ()) ∧ k + i = N ∧ out.length = N ∧ (0 ≤ c ∧ c ≤ 1) ∧ out.drop (N - i) = codes s ∧ AllD s ∧ s.length = i ∧ (dval s : Int) + sfx b i = (sfx a i : Int) + c * 10 ^ i) (by
      rintro k x ⟨i, out, c, s, rfl, hk, hol, hc, hds, hs, hsl, hv⟩
      by_cases hi : i < N
      · have hax : ((a.length : Int) - 1 - i).toNat = a.length - 1 - i := by omega
        have hbx : ((b.length : Int) - 1 - i).toNat = b.length - 1 - i := by omega
        have go : ∀ v c' : Int, (0 ≤ v ∧ v < 10) → (0 ≤ c' ∧ c' ≤ 1) → ((sfx a (i + 1) : Int) + c' * (10 ^ i * 10) - sfx b (i + 1) = v * 10 ^ i + ((sfx a i : Int) + c * 10 ^ i - sfx b i)) →
            r_subMag_s4 (a, b, out, c, (i : Int), ()) = some (Ex.normal, (a, b, out.set (a.length - 1 - i) (48 + v), c', (i : Int) + 1, ())) →
            ∃ m y, r_subMag_s4 (a, b, out, c, (i : Int), ()) = some (Ex.normal, y) ∧ m < k ∧ ∃ (i : Nat) (out : List Int) (c : Int) (s : List UInt8), y = (a, b, out, c, (i : Int), ()) ∧ m + i = N ∧ out.length = N ∧ (0 ≤ c ∧ c ≤ 1) ∧ out.drop (N - i) = codes s ∧ AllD s ∧ s.length = i ∧ (dval s : Int) + sfx b i = (sfx a i : Int) + c * 10 ^ i := by
          intro v c' hv1 hc' hv2 hst
          obtain ⟨d, hd1, hd2, hd3⟩ := code_of (k := v) (by omega)
          refine ⟨k - 1, _, hst, by omega, i + 1, _, _, d :: s, rfl, by omega, by simpa using hol, by omega, ?_, hs.cons hd2, by simp [hsl], ?_⟩
          · rw [show N - (i + 1) = a.length - 1 - i by omega, drop_set (by omega), show a.length - 1 - i + 1 = N - i by omega, hds, ← hd1]; rfl
          · rw [dval_cons, hsl, Int.natCast_add, Int.natCast_mul, hd3, Int.pow_succ]
            push_cast
            grind
        have hia : i < a.length := by omega
        have hga := getD_u8 (s := a) (k := a.length - 1 - i) (by omega)
        have hdA := hda (a[a.length - 1 - i]'(by omega)) (List.getElem_mem _)
        have hsa := sfx_succ hia
        obtain ⟨A, hA⟩ : ∃ A, A = a[a.length - 1 - i]'(by omega) := ⟨_, rfl⟩
        rw [← hA] at hga hdA hsa
        have hA1 := hdA.1
        have hA2 := hdA.2
        have hAd : (dig A : Int) = (A.toNat : Int) - 48 := by unfold dig; omega
        by_cases hib : i < b.length
        · have hgb := getD_u8 (s := b) (k := b.length - 1 - i) (by omega)
          have hdB := hdb (b[b.length - 1 - i]'(by omega)) (List.getElem_mem _)
          have hsb := sfx_succ hib
          obtain ⟨B, hB⟩ : ∃ B, B = b[b.length - 1 - i]'(by omega) := ⟨_, rfl⟩
          rw [← hB] at hgb hdB hsb
          have hB1 := hdB.1
          have hB2 := hdB.2
          have hBd : (dig B : Int) = (B.toNat : Int) - 48 := by unfold dig; omega
          by_cases hneg : (A.toNat : Int) - 48 - c - ((B.toNat : Int) - 48) < 0
          · refine .inr (go ((A.toNat : Int) - 48 - c - ((B.toNat : Int) - 48) + 10) 1 (by omega) (by omega) (by rw [hsa, hsb]; push_cast; rw [hAd, hBd]; grind) ?_)
            simp (disch := (first | omega | (simp only [maxN_eq, List.length_append, List.length_cons, List.length_nil, List.length_set, List.length_replicate, List.length_take, List.length_drop]; omega))) only [r_subMag_s4, hax, hbx, hga, hgb, grd_tt, grd_and, grd_dec, grd_ne, cond_dt, cond_df, cond_et, cond_ef, cond_nt, cond_nf, w64, wu64, wu32, wu8, tm, td, bind_some', same_ee, same_er, same_re, same_rr, cond_t, cond_f, Bool.not_true, Bool.not_false]
          · refine .inr (go ((A.toNat : Int) - 48 - c - ((B.toNat : Int) - 48)) 0 (by omega) (by omega) (by rw [hsa, hsb]; push_cast; rw [hAd, hBd]; grind) ?_)
            simp (disch := (first | omega | (simp only [maxN_eq, List.length_append, List.length_cons, List.length_nil, List.length_set, List.length_replicate, List.length_take, List.length_drop]; omega))) only [r_subMag_s4, hax, hbx, hga, hgb, grd_tt, grd_and, grd_dec, grd_ne, cond_dt, cond_df, cond_et, cond_ef, cond_nt, cond_nf, w64, wu64, wu32, wu8, tm, td, bind_some', same_ee, same_er, same_re, same_rr, cond_t, cond_f, Bool.not_true, Bool.not_false]
        · have hsb : sfx b (i + 1) = sfx b i := by rw [sfx_all (by omega), sfx_all (by omega)]
          by_cases hneg : (A.toNat : Int) - 48 - c < 0
          · refine .inr (go ((A.toNat : Int) - 48 - c + 10) 1 (by omega) (by omega) (by rw [hsa, hsb]; push_cast; rw [hAd]; grind) ?_)
            simp (disch := (first | omega | (simp only [maxN_eq, List.length_append, List.length_cons, List.length_nil, List.length_set, List.length_replicate, List.length_take, List.length_drop]; omega))) only [r_subMag_s4, hax, hga, grd_tt, grd_and, grd_dec, grd_ne, cond_dt, cond_df, cond_et, cond_ef, cond_nt, cond_nf, w64, wu64, wu32, wu8, tm, td, bind_some', same_ee, same_er, same_re, same_rr, cond_t, cond_f, Bool.not_true, Bool.not_false]
          · refine .inr (go ((A.toNat : Int) - 48 - c) 0 (by omega) (by omega) (by rw [hsa, hsb]; push_cast; rw [hAd]; grind) ?_)
            simp (disch := (first | omega | (simp only [maxN_eq, List.length_append, List.length_cons, List.length_nil, List.length_set, List.length_replicate, List.length_take, List.length_drop]; omega))) only [r_subMag_s4, hax, hga, grd_tt, grd_and, grd_dec, grd_ne, cond_dt, cond_df, cond_et, cond_ef, cond_nt, cond_nf, w64, wu64, wu32, wu8, tm, td, bind_some', same_ee, same_er, same_re, same_rr, cond_t, cond_f, Bool.not_true, Bool.not_false]
      · have hiN : i = N := by omega
        subst hiN
        rw [Nat.sub_self, List.drop_zero] at hds
        rw [sfx_all (by omega), sfx_all (by omega), hva, hvb] at hv
        have hls := dval_lt hs
        rw [hsl] at hls
        have hc0 : c = 0 := by
          rcases (show c = 0 ∨ c = 1 by omega) with h | h
          · exact h
          · exfalso
            rw [h, show ((10 : Int) ^ i) = ((10 ^ i : Nat) : Int) by push_cast; rfl] at hv
            omega
        subst hc0
        refine .inl ⟨(Ex.exit 0, (a, b, codes s, 0, (i : Int), ())), ?_, by simp, s, rfl, hs, hsl, by omega⟩
        rw [← hds]
        simp (disch := (first | omega | (simp only [maxN_eq, List.length_append, List.length_cons, List.length_nil, List.length_set, List.length_replicate, List.length_take, List.length_drop]; omega))) only [r_subMag_s4, grd_tt, grd_and, grd_dec, grd_ne, cond_dt, cond_df, cond_et, cond_ef, cond_nt, cond_nf, w64, wu64, wu32, wu8, tm, td, bind_some', same_ee, same_er, same_re, same_rr, cond_t, cond_f, Bool.not_true, Bool.not_false]) N (a, b, List.replicate ((a.length : Int)).toNat 0, 0, 0, ()) ⟨0, _, 0, [], rfl, by omega, by simp; omega, by omega, by simp [codes]; omega, by simp [AllD], rfl, by rw [sfx_zero, sfx_zero]; simp [dval]⟩
  have hapos : 0 < a.length := List.length_pos_iff.2 hane
  have ht := trim_dval h1 (fun e => by rw [e] at h2; simp at h2; omega) (by omega)
  rw [h3] at ht
  unfold r_subMag
  rw [hr]
  simp (disch := (first | omega | (simp only [maxN_eq, List.length_append, List.length_cons, List.length_nil, List.length_set, List.length_replicate, List.length_take, List.length_drop]; omega))) only [codes_back, ht, grd_tt, grd_and, grd_dec, grd_ne, cond_dt, cond_df, cond_et, cond_ef, cond_nt, cond_nf, w64, wu64, wu32, wu8, tm, td, bind_some', same_ee, same_er, same_re, same_rr, cond_t, cond_f, Bool.not_true, Bool.not_false]

/-! ### Products -/
/-- Numbers at places, the highest first. -/
def iv (l : List Int) : Int := l.foldl (fun v x => 10 * v + x) 0
theorem iv_foldl (l : List Int) (v : Int) : l.foldl (fun v x => 10 * v + x) v = v * 10 ^ l.length + iv l := by
  induction l generalizing v with
  | nil => simp [iv]
  | cons c s ih =>
    simp only [List.foldl_cons, iv, List.length_cons, Int.pow_succ]
    rw [ih (10 * v + c), ih (10 * 0 + c)]
    grind
theorem iv_cons (x : Int) (l : List Int) : iv (x :: l) = x * 10 ^ l.length + iv l := by
  show (x :: l).foldl (fun v x => 10 * v + x) 0 = _
  rw [List.foldl_cons, iv_foldl]; simp
theorem iv_set {l : List Int} {k : Nat} (h : k < l.length) (x : Int) : iv (l.set k x) = iv l + (x - l.getD k 0) * 10 ^ (l.length - 1 - k) := by
  induction l generalizing k with
  | nil => simp at h
  | cons y l ih =>
    cases k with
    | zero =>
      simp only [List.set_cons_zero, iv_cons, List.getD_cons_zero, List.length_cons]
      rw [show l.length + 1 - 1 - 0 = l.length by omega]
      grind
    | succ k =>
      simp only [List.set_cons_succ, iv_cons, List.getD_cons_succ, List.length_cons, List.length_set]
      rw [ih (by simpa using h), show l.length + 1 - 1 - (k + 1) = l.length - 1 - k by omega]
      omega
theorem iv_zeros (n : Nat) : iv (List.replicate n 0) = 0 := by
  induction n with
  | zero => rfl
  | succ n ih => rw [List.replicate_succ, iv_cons, ih]; simp
/-- What has come of the first i digits, at their places. -/
def pfx (a : List UInt8) (i : Nat) : Nat := dval (a.take i)
theorem pfx_succ {a : List UInt8} {i : Nat} (h : i < a.length) : pfx a (i + 1) = 10 * pfx a i + dig a[i] := by
  unfold pfx
  rw [List.take_succ_eq_append_getElem h, dval_snoc]
def Bd (l : List Int) (B : Int) : Prop := ∀ x ∈ l, 0 ≤ x ∧ x ≤ B
theorem Bd.at {l : List Int} {B : Int} (h : Bd l B) (hB : 0 ≤ B) (k : Nat) : 0 ≤ l.getD k 0 ∧ l.getD k 0 ≤ B := by
  by_cases hk : k < l.length
  · rw [getD_lt hk]; exact h _ (List.getElem_mem hk)
  · rw [getD_ge (by omega)]; omega
theorem Bd.set {l : List Int} {B B' : Int} (h : Bd l B) (hB : B ≤ B') {k : Nat} {x : Int} (hx : 0 ≤ x ∧ x ≤ B') : Bd (l.set k x) B' := by
  intro y hy
  rcases List.mem_or_eq_of_mem_set hy with hy | rfl
  · have := h y hy; omega
  · exact hx
theorem r_mul_s6_eq {a b : List UInt8} {out0 : List Int} {i : Nat} {B : Int} (hda : AllD a) (hdb : AllD b) (hi : i < a.length) (hol : out0.length = a.length + b.length) (hbl : b.length ≤ 100000000) (hal : a.length ≤ 100000000)
    (hB : 0 ≤ B ∧ B ≤ 1000000000000000000) (hb0 : Bd out0 B) :
    ∃ out, loopO r_mulMag_s6 (a, b, out0, (i : Int), 0, ()) = some (Ex.exit 2, (a, b, out, (i : Int), (b.length : Int), ())) ∧ out.length = out0.length ∧ Bd out (B + 81 * b.length) ∧
      iv out = iv out0 + (dig a[i] : Int) * 10 ^ (a.length - 1 - i) * dval b := by
  have hA := hda a[i] (List.getElem_mem hi)
  obtain ⟨A, hAe⟩ : ∃ A, A = a[i] := ⟨_, rfl⟩
  rw [← hAe] at hA ⊢
  have hga : a.getD i 0 = A := by rw [getD_u8 hi, hAe]
  have hA1 := hA.1
  have hA2 := hA.2
  have hAd : (dig A : Int) = (A.toNat : Int) - 48 := by unfold dig; omega
  obtain ⟨r, hr, out, rfl, h1, h2, h3⟩ := loopO_ind (step := r_mulMag_s6) (Q := fun r => ∃ out, r = (Ex.exit 2, (a, b, out, (i : Int), (b.length : Int), ())) ∧ out.length = out0.length ∧ Bd out (B + 81 * b.length) ∧
      iv out = iv out0 + (dig A : Int) * 10 ^ (a.length - 1 - i) * dval b)
    (fun k x => ∃ (j : Nat) (out : List Int), k + j = b.length ∧ x = (a, b, out, (i : Int), (j : Int), ()) ∧ out.length = out0.length ∧ Bd out (B + 81 * j) ∧
      iv out = iv out0 + (dig A : Int) * 10 ^ (a.length - 1 - i) * ((pfx b j : Int) * 10 ^ (b.length - j))) (by
      rintro k x ⟨j, out, hk, rfl, h1, h2, h3⟩
      by_cases hj : j < b.length
      · have hgb := getD_u8 hj
        have hBd := hdb b[j] (List.getElem_mem hj)
        have hp := pfx_succ hj
        obtain ⟨C, hC⟩ : ∃ C, C = b[j] := ⟨_, rfl⟩
        rw [← hC] at hgb hBd hp
        have hC1 := hBd.1
        have hC2 := hBd.2
        have hCd : (dig C : Int) = (C.toNat : Int) - 48 := by unfold dig; omega
        have e1 : (i : Int).toNat = i := by omega
        have e2 : (j : Int).toNat = j := by omega
        have e3 : ((i : Int) + j + 1).toNat = i + j + 1 := by omega
        have hz := h2.at (by omega) (i + j + 1)
        obtain ⟨P, hP⟩ : ∃ P, P = ((A.toNat : Int) - 48) * ((C.toNat : Int) - 48) := ⟨_, rfl⟩
        have hP0 : 0 ≤ P := by rw [hP]; exact Int.mul_nonneg (by omega) (by omega)
        have hP1 : P ≤ 81 := by
          rw [hP]
          have : ((A.toNat : Int) - 48) * ((C.toNat : Int) - 48) ≤ 9 * ((C.toNat : Int) - 48) := Int.mul_le_mul_of_nonneg_right (by omega) (by omega)
          omega
        refine .inr ⟨k - 1, (a, b, out.set (i + j + 1) (out.getD (i + j + 1) 0 + P), (i : Int), ((j + 1 : Nat) : Int), ()), ?_, by omega, j + 1, _, by omega, rfl, by simpa using h1, h2.set (by omega) (by omega), ?_⟩
        · rw [hP]
          rw [hP] at hP0 hP1
          simp (disch := (first | omega | (simp only [maxN_eq, List.length_append, List.length_cons, List.length_nil, List.length_set, List.length_replicate, List.length_take, List.length_drop]; omega))) only [r_mulMag_s6, e1, e2, e3, hga, hgb, grd_tt, grd_and, grd_dec, grd_ne, cond_dt, cond_df, cond_et, cond_ef, cond_nt, cond_nf, w64, wu64, wu32, wu8, tm, td, bind_some', same_ee, same_er, same_re, same_rr, cond_t, cond_f, Bool.not_true, Bool.not_false]
          rfl
        · rw [iv_set (by omega), h3, hp]
          have ex : out.length - 1 - (i + j + 1) = (a.length - 1 - i) + (b.length - (j + 1)) := by omega
          have ey : b.length - j = (b.length - (j + 1)) + 1 := by omega
          rw [ex, ey, Int.pow_add, Int.pow_succ, hP, ← hAd, ← hCd]
          push_cast
          grind
      · have hjb : j = b.length := by omega
        subst hjb
        refine .inl ⟨(Ex.exit 2, (a, b, out, (i : Int), (b.length : Int), ())), ?_, by simp, out, rfl, h1, h2, ?_⟩
        · simp (disch := (first | omega | (simp only [maxN_eq, List.length_append, List.length_cons, List.length_nil, List.length_set, List.length_replicate, List.length_take, List.length_drop]; omega))) only [r_mulMag_s6, grd_tt, grd_and, grd_dec, grd_ne, cond_dt, cond_df, cond_et, cond_ef, cond_nt, cond_nf, w64, wu64, wu32, wu8, tm, td, bind_some', same_ee, same_er, same_re, same_rr, cond_t, cond_f, Bool.not_true, Bool.not_false]
        · rw [h3]; unfold pfx; rw [List.take_length, Nat.sub_self]; simp) b.length _ ⟨0, out0, by omega, rfl, rfl, by simpa using hb0, by unfold pfx; simp [dval]⟩
  exact ⟨out, hr, h1, h2, h3⟩

set_option maxHeartbeats 1000000 in
theorem r_mul_eq (m n : Nat) (hm : (dd m).length ≤ 10000000) (hn : (dd n).length ≤ 10000000) : r_mulMag (dd m) (dd n) = some ((dd (m * n), ()), ()) := by
  obtain ⟨a, ha⟩ : ∃ a, a = dd m := ⟨_, rfl⟩
  obtain ⟨b, hb⟩ : ∃ b, b = dd n := ⟨_, rfl⟩
  have hda : AllD a := ha ▸ dd_D m
  have hdb : AllD b := hb ▸ dd_D n
  have hapos : 0 < a.length := by rw [ha]; exact dd_len_pos m
  rw [← ha, ← hb]
  rw [← ha] at hm
  rw [← hb] at hn
  have hva : dval a = m := by rw [ha, dval_dd]
  have hvb : dval b = n := by rw [hb, dval_dd]
  obtain ⟨r, hr, out, rfl, h1, h2, h3⟩ := loopO_ind (step := r_mulMag_s3) (Q := fun r => ∃ out, r = (Ex.exit 0, (a, b, out, (a.length : Int), ())) ∧ out.length = a.length + b.length ∧ Bd out (81 * 100000000000000) ∧ iv out = (dval a : Int) * dval b)
    (fun k x => ∃ (i : Nat) (out : List Int), k + i = a.length ∧ x = (a, b, out, (i : Int), ()) ∧ out.length = a.length + b.length ∧ Bd out (81 * ((i * b.length : Nat) : Int)) ∧ iv out = (pfx a i : Int) * 10 ^ (a.length - i) * dval b) (by
      rintro k x ⟨i, out, hk, rfl, h1, h2, h3⟩
      have hib : i * b.length ≤ a.length * b.length := Nat.mul_le_mul_right _ (by omega)
      have hab : a.length * b.length ≤ 10000000 * b.length := Nat.mul_le_mul_right _ hm
      by_cases hi : i < a.length
      · obtain ⟨o2, hin, g1, g2, g3⟩ := r_mul_s6_eq (B := 81 * ((i * b.length : Nat) : Int)) hda hdb hi h1 (by omega) (by omega) (by omega) h2
        have hp := pfx_succ hi
        refine .inr ⟨k - 1, (a, b, o2, ((i + 1 : Nat) : Int), ()), ?_, by omega, i + 1, o2, by omega, rfl, by omega, ?_, ?_⟩
        · simp (disch := (first | omega | (simp only [maxN_eq, List.length_append, List.length_cons, List.length_nil, List.length_set, List.length_replicate, List.length_take, List.length_drop]; omega))) only [r_mulMag_s3, hin, grd_tt, grd_and, grd_dec, grd_ne, cond_dt, cond_df, cond_et, cond_ef, cond_nt, cond_nf, w64, wu64, wu32, wu8, tm, td, bind_some', same_ee, same_er, same_re, same_rr, cond_t, cond_f, Bool.not_true, Bool.not_false]
          rfl
        · intro y hy
          have := g2 y hy
          rw [Nat.add_mul]
          omega
        · rw [g3, h3, hp, show a.length - i = (a.length - 1 - i) + 1 by omega, show a.length - (i + 1) = a.length - 1 - i by omega, Int.pow_succ]
          push_cast
          grind
      · have hia : i = a.length := by omega
        subst hia
        refine .inl ⟨(Ex.exit 0, (a, b, out, (a.length : Int), ())), ?_, by simp, out, rfl, h1, ?_, ?_⟩
        · simp (disch := (first | omega | (simp only [maxN_eq, List.length_append, List.length_cons, List.length_nil, List.length_set, List.length_replicate, List.length_take, List.length_drop]; omega))) only [r_mulMag_s3, grd_tt, grd_and, grd_dec, grd_ne, cond_dt, cond_df, cond_et, cond_ef, cond_nt, cond_nf, w64, wu64, wu32, wu8, tm, td, bind_some', same_ee, same_er, same_re, same_rr, cond_t, cond_f, Bool.not_true, Bool.not_false]
        · intro y hy; have := h2 y hy; omega
        · rw [h3]; unfold pfx; rw [List.take_length, Nat.sub_self]; simp) a.length (a, b, List.replicate ((((a.length : Int) + b.length)).toNat) 0, 0, ()) ⟨0, _, by omega, rfl, by simp; omega, by intro y hy; rw [List.eq_of_mem_replicate hy]; simp, by rw [iv_zeros]; unfold pfx; simp [dval]⟩
  obtain ⟨N, hN⟩ : ∃ N, N = out.length := ⟨_, rfl⟩
  -- the carries
  obtain ⟨r2, hr2, s, rfl, g1, g2, g3⟩ := loopO_ind (step := r_mulMag_s12) (Q := fun r => ∃ s : List UInt8, r = (Ex.exit 4, (out, codes s, 0, -1, ())) ∧ AllD s ∧ s.length = N ∧ dval s = m * n)
    (fun k x => ∃ (o : List Int) (c : Int) (s : List UInt8), x = (out, o, c, (k : Int) - 1, ()) ∧ k ≤ N ∧ o.length = N ∧ (0 ≤ c ∧ c ≤ 81 * 100000000000000) ∧ o.drop k = codes s ∧ AllD s ∧ s.length = N - k ∧ (dval s : Int) + c * 10 ^ (N - k) = iv (out.drop k)) (by
      rintro k x ⟨o, c, s, rfl, hk, hol, hc, hds, hs, hsl, hv⟩
      by_cases h0 : k = 0
      · subst h0
        rw [List.drop_zero] at hds hv
        rw [Nat.sub_zero] at hv hsl
        rw [h3] at hv
        have hla := dval_lt hda
        have hlb := dval_lt hdb
        have hprod : dval a * dval b < 10 ^ N := by
          rw [hN, h1, Nat.pow_add]
          exact Nat.mul_lt_mul'' hla hlb
        have hc0 : c = 0 := by
          rcases Int.lt_or_eq_of_le hc.1 with h | h
          · exfalso
            have e1 : 1 * (10 : Int) ^ N ≤ c * 10 ^ N := Int.mul_le_mul_of_nonneg_right (by omega) (by have : (0 : Int) < 10 ^ N := Int.pow_pos (by decide); omega)
            rw [show ((10 : Int) ^ N) = ((10 ^ N : Nat) : Int) by push_cast; rfl] at e1 hv
            rw [← Int.natCast_mul] at hv
            omega
          · exact h.symm
        subst hc0
        refine .inl ⟨(Ex.exit 4, (out, codes s, 0, -1, ())), ?_, by simp, s, rfl, hs, hsl, ?_⟩
        · rw [← hds]
          simp (disch := (first | omega | (simp only [maxN_eq, List.length_append, List.length_cons, List.length_nil, List.length_set, List.length_replicate, List.length_take, List.length_drop]; omega))) only [r_mulMag_s12, grd_tt, grd_and, grd_dec, grd_ne, cond_dt, cond_df, cond_et, cond_ef, cond_nt, cond_nf, w64, wu64, wu32, wu8, tm, td, bind_some', same_ee, same_er, same_re, same_rr, cond_t, cond_f, Bool.not_true, Bool.not_false]
          rfl
        · rw [Int.zero_mul, Int.add_zero, ← Int.natCast_mul, hva, hvb] at hv; omega
      · have e : ((k : Int) - 1).toNat = k - 1 := by omega
        have hz := h2.at (by omega) (k - 1)
        obtain ⟨v, hvv⟩ : ∃ v, v = out.getD (k - 1) 0 + c := ⟨_, rfl⟩
        obtain ⟨d, hd1, hd2, hd3⟩ := code_of (k := v % 10) (by omega)
        refine .inr ⟨k - 1, (out, o.set (k - 1) (48 + v % 10), v / 10, (k : Int) - 1 - 1, ()), ?_, by omega, o.set (k - 1) (48 + v % 10), v / 10, d :: s, ?_, by omega, by simpa using hol, by omega, ?_, hs.cons hd2, by simp [hsl]; omega, ?_⟩
        · rw [hvv]
          simp (disch := (first | omega | (simp only [maxN_eq, List.length_append, List.length_cons, List.length_nil, List.length_set, List.length_replicate, List.length_take, List.length_drop]; omega))) only [r_mulMag_s12, e, grd_tt, grd_and, grd_dec, grd_ne, cond_dt, cond_df, cond_et, cond_ef, cond_nt, cond_nf, w64, wu64, wu32, wu8, tm, td, bind_some', same_ee, same_er, same_re, same_rr, cond_t, cond_f, Bool.not_true, Bool.not_false]
        · rw [show (k : Int) - 1 - 1 = ((k - 1 : Nat) : Int) - 1 by omega]
        · rw [drop_set (by omega), show k - 1 + 1 = k by omega, hds, ← hd1]; rfl
        · rw [dval_cons, hsl, Int.natCast_add, Int.natCast_mul, hd3, List.drop_eq_getElem_cons (show k - 1 < out.length by omega), iv_cons, ← getD_lt (by omega), show k - 1 + 1 = k by omega, ← hv, List.length_drop, show N - (k - 1) = (N - k) + 1 by omega, ← hN, Int.pow_succ]
          have := Int.emod_add_mul_ediv v 10
          push_cast
          grind) N (out, List.replicate ((out.length : Int)).toNat 0, 0, (out.length : Int) - 1, ()) ⟨_, 0, [], by rw [hN], Nat.le_refl _, by simp; omega, by omega, by rw [List.drop_of_length_le (by simp; omega)]; rfl, by simp [AllD], by simp, by rw [List.drop_of_length_le (by omega)]; simp [dval, iv]⟩
  have ht := trim_dval g1 (fun e => by rw [e] at g2; simp at g2; omega) (by omega)
  rw [g3] at ht
  have hlen : out.length = a.length + b.length := h1
  have hw : IntKind.i64.wrap ((out.length : Int) - 1) = (out.length : Int) - 1 := w64 (by omega)
  have hw2 : IntKind.i64.wrap ((a.length : Int) + b.length) = (a.length : Int) + b.length := w64 (by omega)
  unfold r_mulMag
  simp only [hw2]
  rw [hr]
  simp only [bind_some', same_ee, cond_t, hw]
  rw [hr2]
  simp (disch := (first | omega | (simp only [maxN_eq, List.length_append, List.length_cons, List.length_nil, List.length_set, List.length_replicate, List.length_take, List.length_drop]; omega))) only [codes_back, ht, grd_tt, grd_and, grd_dec, grd_ne, cond_dt, cond_df, cond_et, cond_ef, cond_nt, cond_nf, w64, wu64, wu32, wu8, tm, td, bind_some', same_ee, same_er, same_re, same_rr, cond_t, cond_f, Bool.not_true, Bool.not_false]
end Go.AM.Num
end
section
set_option linter.unusedSimpArgs false
set_option linter.unusedVariables false
namespace Go.AM.Num

/-- Subtracting as often as possible. -/
theorem r_div_s8_eq (a : List UInt8) (q : List Int) (i : Int) (R B : Nat) (hB : B ≠ 0) (hR : (dd R).length ≤ 100000000) (hlt : R < 10 * B) :
    loopO r_divMag_s8 (a, dd B, q, dd R, i, 48, ()) = some (Ex.exit 2, (a, dd B, q, dd (R % B), i, 48 + ((R / B : Nat) : Int), ())) := by
  obtain ⟨r, hr, rfl⟩ := loopO_ind (step := r_divMag_s8) (Q := fun r => r = (Ex.exit 2, (a, dd B, q, dd (R % B), i, 48 + ((R / B : Nat) : Int), ())))
    (fun k x => ∃ S d : Nat, x = (a, dd B, q, dd S, i, 48 + (d : Int), ()) ∧ k = S ∧ S + d * B = R) (by
      rintro k x ⟨S, d, rfl, rfl, h⟩
      obtain ⟨c, hc, hc1, hc2⟩ := r_cmp_eq k B
      by_cases hlt' : k < B
      · have hneg := hc1.2 hlt'
        have hq : R / B = d := by rw [← h, Nat.add_mul_div_right _ _ (by omega), Nat.div_eq_of_lt hlt']; omega
        have hm : R % B = k := by rw [← h, Nat.add_mul_mod_self_right, Nat.mod_eq_of_lt hlt']
        refine .inl ⟨(Ex.exit 2, (a, dd B, q, dd k, i, 48 + (d : Int), ())), ?_, by simp, by rw [hq, hm]⟩
        simp (disch := (first | omega | (simp only [maxN_eq, List.length_append, List.length_cons, List.length_nil, List.length_set, List.length_replicate, List.length_take, List.length_drop]; omega))) only [r_divMag_s8, hc, grd_tt, grd_and, grd_dec, grd_ne, cond_dt, cond_df, cond_et, cond_ef, cond_nt, cond_nf, w64, wu64, wu32, wu8, tm, td, bind_some', same_ee, same_er, same_re, same_rr, cond_t, cond_f, Bool.not_true, Bool.not_false]
      · have hge : c ≥ 0 := by
          rcases Int.lt_or_le c 0 with h' | h'
          · exact absurd (hc1.1 h') hlt'
          · exact h'
        have hkl : (dd k).length ≤ 100000000 := Nat.le_trans (dd_len_mono (by rw [← h]; omega)) hR
        have hs := r_sub_eq k B hkl (by omega)
        have hd9 : d < 9 := by
          have : (d + 1) * B ≤ R := by rw [Nat.add_mul]; omega
          have h2 : (d + 1) * B < 10 * B := by omega
          have := Nat.lt_of_mul_lt_mul_right h2
          omega
        refine .inr ⟨k - B, (a, dd B, q, dd (k - B), i, 48 + ((d + 1 : Nat) : Int), ()), ?_, by omega, k - B, d + 1, rfl, rfl, by rw [Nat.add_mul]; omega⟩
        simp (disch := (first | omega | (simp only [maxN_eq, List.length_append, List.length_cons, List.length_nil, List.length_set, List.length_replicate, List.length_take, List.length_drop]; omega))) only [r_divMag_s8, hc, hs, grd_tt, grd_and, grd_dec, grd_ne, cond_dt, cond_df, cond_et, cond_ef, cond_nt, cond_nf, w64, wu64, wu32, wu8, tm, td, bind_some', same_ee, same_er, same_re, same_rr, cond_t, cond_f, Bool.not_true, Bool.not_false]
        congr 7) R (a, dd B, q, dd R, i, 48, ()) ⟨R, 0, by simp, rfl, by omega⟩
  exact hr
theorem take_set {α : Type} {l : List α} {i : Nat} (h : i < l.length) (c : α) : (l.set i c).take (i + 1) = l.take i ++ [c] := by
  rw [List.take_succ_eq_append_getElem (by simpa using h), List.getElem_set_self, List.take_set_of_le (by omega)]
theorem codes_snoc (s : List UInt8) (d : UInt8) : codes (s ++ [d]) = codes s ++ [(d.toNat : Int)] := by simp [codes]
set_option maxHeartbeats 1000000 in
theorem r_div_eq (m n : Nat) (hm : (dd m).length ≤ 10000000) (hn : (dd n).length ≤ 10000000) (h0 : n ≠ 0) : r_divMag (dd m) (dd n) = some ((dd (m / n), dd (m % n), ()), ()) := by
  obtain ⟨a, ha⟩ : ∃ a, a = dd m := ⟨_, rfl⟩
  have hda : AllD a := ha ▸ dd_D m
  have hva : dval a = m := by rw [ha, dval_dd]
  have hapos : 0 < a.length := by rw [ha]; exact dd_len_pos m
  rw [← ha]
  rw [← ha] at hm
  obtain ⟨r, hr, s, rfl, h1, h2, h3⟩ := loopO_ind (step := r_divMag_s4) (Q := fun r => ∃ s : List UInt8, r = (Ex.exit 0, (a, dd n, codes s, dd (m % n), (a.length : Int), ())) ∧ AllD s ∧ s.length = a.length ∧ dval s = m / n)
    (fun k x => ∃ (i : Nat) (q : List Int) (R : Nat) (s : List UInt8), x = (a, dd n, q, dd R, (i : Int), ()) ∧ k + i = a.length ∧ q.length = a.length ∧ q.take i = codes s ∧ AllD s ∧ s.length = i ∧ R < n ∧ pfx a i = dval s * n + R) (by
      rintro k x ⟨i, q, R, s, rfl, hk, hql, hqt, hs, hsl, hR, hv⟩
      by_cases hi : i < a.length
      · have hp := pfx_succ hi
        have hA := hda a[i] (List.getElem_mem hi)
        have hcut : (a.take (i + 1)).drop i = [a[i]] := by
          rw [List.take_succ_eq_append_getElem hi]
          have hl : (a.take i).length = i := by rw [List.length_take]; omega
          conv => lhs; arg 1; rw [← hl]
          exact List.drop_left
        obtain ⟨A, hAe⟩ : ∃ A, A = a[i] := ⟨_, rfl⟩
        rw [← hAe] at hp hA hcut
        have hAl := dig_lt hA
        have hRl : (dd R).length ≤ (dd n).length := dd_len_mono (by omega)
        have htr := trim_dval (s := dd R ++ [A]) ((dd_D R).app (fun c hc => by rw [List.mem_singleton.1 hc]; exact hA)) (by simp) (by simp; omega)
        rw [dval_snoc, dval_dd] at htr
        obtain ⟨S, hS⟩ : ∃ S, S = 10 * R + dig A := ⟨_, rfl⟩
        rw [← hS] at htr
        have hSl : (dd S).length ≤ 100000000 := by
          have : S < 10 ^ ((dd n).length + 1) := by
            have h1 := dd_len_lt n
            rw [Nat.pow_succ]; omega
          have := dd_lt_len this (by omega)
          omega
        have hin := r_div_s8_eq a q (i : Int) S n h0 hSl (by omega)
        have hd9 : S / n ≤ 9 := by
          have : S / n < 10 := Nat.div_lt_of_lt_mul (by omega)
          omega
        obtain ⟨d, hd1, hd2, hd3⟩ := code_of (k := ((S / n : Nat) : Int)) ⟨Int.natCast_nonneg _, by exact_mod_cast Nat.lt_succ_of_le hd9⟩
        have e1 : ((i : Int) + 1).toNat = i + 1 := by omega
        have e2 : ((i : Int)).toNat = i := by omega
        have g : (dd R).length + ([A] : List UInt8).length ≤ maxS := by rw [maxS_eq]; simp; omega
        refine .inr ⟨k - 1, (a, dd n, q.set i (48 + ((S / n : Nat) : Int)), dd (S % n), ((i + 1 : Nat) : Int), ()), ?_, by omega, i + 1, _, S % n, s ++ [d], rfl, by omega, by simpa using hql, ?_, ?_, by simp [hsl], Nat.mod_lt _ (by omega), ?_⟩
        · simp (disch := (first | omega | (simp only [maxN_eq, List.length_append, List.length_cons, List.length_nil, List.length_set, List.length_replicate, List.length_take, List.length_drop]; omega))) only [r_divMag_s4, e1, e2, hcut, grd_dec g, htr, hin, grd_tt, grd_and, grd_dec, grd_ne, cond_dt, cond_df, cond_et, cond_ef, cond_nt, cond_nf, w64, wu64, wu32, wu8, tm, td, bind_some', same_ee, same_er, same_re, same_rr, cond_t, cond_f, Bool.not_true, Bool.not_false]
          rfl
        · rw [take_set (by omega), hqt, codes_snoc, hd1]
        · exact hs.app (fun c hc => by rw [List.mem_singleton.1 hc]; exact hd2)
        · rw [dval_snoc, hp, hv]
          have h5 : dig d = S / n := by exact_mod_cast hd3
          have h6 := Nat.div_add_mod S n
          rw [h5]
          grind
      · have hia : i = a.length := by omega
        subst hia
        rw [List.take_of_length_le (by omega)] at hqt
        have hv' : m = dval s * n + R := by rw [← hva, ← hv]; unfold pfx; rw [List.take_length]
        have hq' : m / n = dval s := by rw [hv', Nat.mul_comm, Nat.mul_add_div (by omega), Nat.div_eq_of_lt hR]; omega
        have hm' : m % n = R := by rw [hv', Nat.mul_comm, Nat.mul_add_mod, Nat.mod_eq_of_lt hR]
        refine .inl ⟨(Ex.exit 0, (a, dd n, codes s, dd (m % n), (a.length : Int), ())), ?_, by simp, s, rfl, hs, hsl, hq'.symm⟩
        rw [← hqt, hm']
        simp (disch := (first | omega | (simp only [maxN_eq, List.length_append, List.length_cons, List.length_nil, List.length_set, List.length_replicate, List.length_take, List.length_drop]; omega))) only [r_divMag_s4, grd_tt, grd_and, grd_dec, grd_ne, cond_dt, cond_df, cond_et, cond_ef, cond_nt, cond_nf, w64, wu64, wu32, wu8, tm, td, bind_some', same_ee, same_er, same_re, same_rr, cond_t, cond_f, Bool.not_true, Bool.not_false]) a.length (a, dd n, List.replicate ((a.length : Int)).toNat 0, [48], 0, ()) ⟨0, _, 0, [], by rw [dd_zero]; rfl, by omega, by simp, by simp [codes], by simp [AllD], rfl, by omega, by unfold pfx; simp [dval]⟩
  have ht := trim_dval h1 (fun e => by rw [e] at h2; simp at h2; omega) (by omega)
  rw [h3] at ht
  unfold r_divMag
  rw [hr]
  simp (disch := (first | omega | (simp only [maxN_eq, List.length_append, List.length_cons, List.length_nil, List.length_set, List.length_replicate, List.length_take, List.length_drop]; omega))) only [codes_back, ht, grd_tt, grd_and, grd_dec, grd_ne, cond_dt, cond_df, cond_et, cond_ef, cond_nt, cond_nf, w64, wu64, wu32, wu8, tm, td, bind_some', same_ee, same_er, same_re, same_rr, cond_t, cond_f, Bool.not_true, Bool.not_false]
theorem r_gcd_eq (m n : Nat) (hm : (dd m).length ≤ 10000000) (hn : (dd n).length ≤ 10000000) : r_gcdMag (dd m) (dd n) = some ((dd (Nat.gcd m n), ()), ()) := by
  obtain ⟨r, hr, b, rfl⟩ := loopO_ind (step := r_gcdMag_s1) (Q := fun r => ∃ b, r = (Ex.exit 0, (dd (Nat.gcd m n), b, ())))
    (fun k x => ∃ a b : Nat, x = (dd a, dd b, ()) ∧ k = b ∧ Nat.gcd a b = Nat.gcd m n ∧ (dd a).length ≤ 10000000 ∧ (dd b).length ≤ 10000000) (by
      rintro k x ⟨a, b, rfl, rfl, hg, ha, hb⟩
      by_cases h0 : k = 0
      · subst h0
        refine .inl ⟨(Ex.exit 0, (dd a, dd 0, ())), ?_, by simp, dd 0, by rw [← hg, Nat.gcd_zero_right]⟩
        simp (disch := (first | omega | (simp only [maxN_eq, List.length_append, List.length_cons, List.length_nil, List.length_set, List.length_replicate, List.length_take, List.length_drop]; omega))) only [r_gcdMag_s1, beq_of dd_zero, grd_tt, grd_and, grd_dec, grd_ne, cond_dt, cond_df, cond_et, cond_ef, cond_nt, cond_nf, w64, wu64, wu32, wu8, tm, td, bind_some', same_ee, same_er, same_re, same_rr, cond_t, cond_f, Bool.not_true, Bool.not_false]
      · have hne : dd k ≠ [48] := fun e => h0 (by rw [← dd_zero] at e; exact dd_inj e)
        refine .inr ⟨a % k, _, ?_, Nat.mod_lt _ (by omega), k, a % k, rfl, rfl, ?_, hb, ?_⟩
        · simp (disch := (first | omega | (simp only [maxN_eq, List.length_append, List.length_cons, List.length_nil, List.length_set, List.length_replicate, List.length_take, List.length_drop]; omega))) only [r_gcdMag_s1, beq_ne hne, r_div_eq a k ha hb h0, grd_tt, grd_and, grd_dec, grd_ne, cond_dt, cond_df, cond_et, cond_ef, cond_nt, cond_nf, w64, wu64, wu32, wu8, tm, td, bind_some', same_ee, same_er, same_re, same_rr, cond_t, cond_f, Bool.not_true, Bool.not_false]
        · rw [Nat.gcd_comm, ← Nat.gcd_rec, Nat.gcd_comm, hg]
        · exact Nat.le_trans (dd_len_mono (Nat.le_of_lt (Nat.mod_lt _ (by omega)))) hb) n _ ⟨m, n, rfl, rfl, rfl, hm, hn⟩
  unfold r_gcdMag
  rw [hr]
  simp (disch := (first | omega | (simp only [maxN_eq, List.length_append, List.length_cons, List.length_nil, List.length_set, List.length_replicate, List.length_take, List.length_drop]; omega))) only [grd_tt, grd_and, grd_dec, grd_ne, cond_dt, cond_df, cond_et, cond_ef, cond_nt, cond_nf, w64, wu64, wu32, wu8, tm, td, bind_some', same_ee, same_er, same_re, same_rr, cond_t, cond_f, Bool.not_true, Bool.not_false]
end Go.AM.Num
end
section
set_option linter.unusedSimpArgs false
set_option linter.unusedVariables false
namespace Go.AM.Num

theorem dd_beq_zero (m : Nat) : (dd m == [48]) = decide (m = 0) := by
  by_cases h : m = 0
  · subst h; rw [decide_eq_true rfl]; exact beq_of dd_zero
  · rw [decide_eq_false h]; exact beq_ne (fun e => h (by rw [← dd_zero] at e; exact dd_inj e))
theorem dd_beq_one (m : Nat) : (dd m == [49]) = decide (m = 1) := by
  by_cases h : m = 1
  · subst h; rw [decide_eq_true rfl]; exact beq_of dd_one
  · rw [decide_eq_false h]; exact beq_ne (fun e => h (by rw [← dd_one] at e; exact dd_inj e))
/-- A sign (of what is not 0), the digits of two numbers. -/
def rr (neg : Bool) (m d : Nat) : Bool × List UInt8 × List UInt8 := (neg && decide (m ≠ 0), dd m, dd d)
theorem r_text_eq (neg : Bool) (m d : Nat) (hm : (dd m).length ≤ 100000000) (hd : (dd d).length ≤ 100000000) : r_ratio_text ((rr neg m d).1, (rr neg m d).2.1, (rr neg m d).2.2) = some ((tx neg m d, ()), ()) := by
  have h1 : ([45] : List UInt8).length + (dd m).length ≤ maxS := by rw [maxS_eq]; simp; omega
  have h2 : ([47] : List UInt8).length + (dd d).length ≤ maxS := by rw [maxS_eq]; simp; omega
  have h3 : (([45] : List UInt8) ++ dd m).length + (([47] : List UInt8) ++ dd d).length ≤ maxS := by rw [maxS_eq]; simp; omega
  have h4 : (dd m).length + (([47] : List UInt8) ++ dd d).length ≤ maxS := by rw [maxS_eq]; simp; omega
  have h5 := dd_beq_one d
  unfold r_ratio_text tx rr
  dsimp only
  by_cases hn : neg = true ∧ m ≠ 0
  · have e : (neg && decide (m ≠ 0)) = true := by rw [hn.1, decide_eq_true hn.2]; rfl
    rw [e, if_pos hn]
    by_cases h : d = 1
    · rw [decide_eq_true h] at h5
      simp (disch := (first | omega | (simp only [maxN_eq, List.length_append, List.length_cons, List.length_nil, List.length_set, List.length_replicate, List.length_take, List.length_drop]; omega))) only [h5, grd_dec h1, grd_tt, grd_and, grd_dec, grd_ne, cond_dt, cond_df, cond_et, cond_ef, cond_nt, cond_nf, w64, wu64, wu32, wu8, tm, td, bind_some', same_ee, same_er, same_re, same_rr, cond_t, cond_f, Bool.not_true, Bool.not_false]
      rw [if_pos h]; simp
    · rw [decide_eq_false h] at h5
      simp (disch := (first | omega | (simp only [maxN_eq, List.length_append, List.length_cons, List.length_nil, List.length_set, List.length_replicate, List.length_take, List.length_drop]; omega))) only [h5, grd_dec h1, grd_dec h2, grd_dec h3, grd_tt, grd_and, grd_dec, grd_ne, cond_dt, cond_df, cond_et, cond_ef, cond_nt, cond_nf, w64, wu64, wu32, wu8, tm, td, bind_some', same_ee, same_er, same_re, same_rr, cond_t, cond_f, Bool.not_true, Bool.not_false]
      rw [if_neg h]; rfl
  · have e : (neg && decide (m ≠ 0)) = false := by
      cases neg with
      | false => rfl
      | true =>
        have : m = 0 := by simpa using hn
        subst this; rfl
    rw [e, if_neg hn]
    by_cases h : d = 1
    · rw [decide_eq_true h] at h5
      simp (disch := (first | omega | (simp only [maxN_eq, List.length_append, List.length_cons, List.length_nil, List.length_set, List.length_replicate, List.length_take, List.length_drop]; omega))) only [h5, grd_tt, grd_and, grd_dec, grd_ne, cond_dt, cond_df, cond_et, cond_ef, cond_nt, cond_nf, w64, wu64, wu32, wu8, tm, td, bind_some', same_ee, same_er, same_re, same_rr, cond_t, cond_f, Bool.not_true, Bool.not_false]
      rw [if_pos h]; simp
    · rw [decide_eq_false h] at h5
      simp (disch := (first | omega | (simp only [maxN_eq, List.length_append, List.length_cons, List.length_nil, List.length_set, List.length_replicate, List.length_take, List.length_drop]; omega))) only [h5, grd_dec h2, grd_dec h4, grd_tt, grd_and, grd_dec, grd_ne, cond_dt, cond_df, cond_et, cond_ef, cond_nt, cond_nf, w64, wu64, wu32, wu8, tm, td, bind_some', same_ee, same_er, same_re, same_rr, cond_t, cond_f, Bool.not_true, Bool.not_false]
      rw [if_neg h]; rfl
theorem r_reduce_eq (neg : Bool) (m d : Nat) (hd : d ≠ 0) (hm : (dd m).length ≤ 10000000) (hdl : (dd d).length ≤ 10000000) :
    r_reduce neg (dd m) (dd d) = some ((rr neg (m / Nat.gcd m d) (d / Nat.gcd m d), ()), ()) := by
  have hg0 : Nat.gcd m d ≠ 0 := fun e => hd (Nat.gcd_eq_zero_iff.1 e).2
  have hgl : (dd (Nat.gcd m d)).length ≤ 10000000 := Nat.le_trans (dd_len_mono (Nat.le_of_dvd (by omega) (Nat.gcd_dvd_right m d))) hdl
  have hz := dd_beq_zero (m / Nat.gcd m d)
  unfold r_reduce rr
  cases neg with
  | false =>
    simp (disch := (first | omega | (simp only [maxN_eq, List.length_append, List.length_cons, List.length_nil, List.length_set, List.length_replicate, List.length_take, List.length_drop]; omega))) only [r_gcd_eq m d hm hdl, r_div_eq m _ hm hgl hg0, r_div_eq d _ hdl hgl hg0, grd_tt, grd_and, grd_dec, grd_ne, cond_dt, cond_df, cond_et, cond_ef, cond_nt, cond_nf, w64, wu64, wu32, wu8, tm, td, bind_some', same_ee, same_er, same_re, same_rr, cond_t, cond_f, Bool.not_true, Bool.not_false]
    rfl
  | true =>
    simp (disch := (first | omega | (simp only [maxN_eq, List.length_append, List.length_cons, List.length_nil, List.length_set, List.length_replicate, List.length_take, List.length_drop]; omega))) only [r_gcd_eq m d hm hdl, r_div_eq m _ hm hgl hg0, r_div_eq d _ hdl hgl hg0, hz, grd_tt, grd_and, grd_dec, grd_ne, cond_dt, cond_df, cond_et, cond_ef, cond_nt, cond_nf, w64, wu64, wu32, wu8, tm, td, bind_some', same_ee, same_er, same_re, same_rr, cond_t, cond_f, Bool.not_true, Bool.not_false]
    simp only [Bool.true_and, ne_eq, decide_not]
/-- Lowest terms and their text. -/
theorem r_fin (neg : Bool) (m d : Nat) (hd : d ≠ 0) (hm : (dd m).length ≤ 10000000) (hdl : (dd d).length ≤ 10000000) :
    ∃ r, r_reduce neg (dd m) (dd d) = some ((r, ()), ()) ∧ r_ratio_text (r.1, r.2.1, r.2.2) = some ((txt (mkRat (sg neg m) d), ()), ()) := by
  refine ⟨_, r_reduce_eq neg m d hd hm hdl, ?_⟩
  rw [r_text_eq neg _ _ (Nat.le_trans (dd_len_mono (Nat.div_le_self _ _)) (by omega)) (Nat.le_trans (dd_len_mono (Nat.div_le_self _ _)) (by omega)), tx_lowest neg m d hd]

/-! ### Reading -/
def bad : Bool × List UInt8 × List UInt8 := (false, [], [])
/-- What is asked of the parts. -/
noncomputable def ptail (a : List UInt8) (neg : Bool) (num den : List UInt8) : Option (((Bool × List UInt8 × List UInt8) × Bool × Unit) × Unit) :=
  (r_digits num).bind fun r2 =>
  cond (!r2.1.1)
    (some (((false, ([] : List UInt8), ([] : List UInt8)), false, ()), ()))
    ((r_digits den).bind fun r3 =>
    cond (!r3.1.1)
      (some (((false, ([] : List UInt8), ([] : List UInt8)), false, ()), ()))
      (cond (den == ([48] : List UInt8))
        (some (((false, ([] : List UInt8), ([] : List UInt8)), false, ()), ()))
        ((r_trim num).bind fun r4 =>
        cond (!(r4.1.1 == num))
          (some (((false, ([] : List UInt8), ([] : List UInt8)), false, ()), ()))
          ((r_trim den).bind fun r5 =>
          cond (!(r5.1.1 == den))
            (some (((false, ([] : List UInt8), ([] : List UInt8)), false, ()), ()))
            ((r_reduce neg num den).bind fun r6 =>
            (r_ratio_text (r6.1.1.1, r6.1.1.2.1, r6.1.1.2.2)).bind fun r7 =>
            cond (!(r7.1.1 == a))
              (some (((false, ([] : List UInt8), ([] : List UInt8)), false, ()), ()))
              (some (((neg, num, den), true, ()), ())))))))
theorem figs_dd (m : Nat) : figs (dd m) := ⟨dd_ne m, dd_D m⟩
theorem ptail_good {a : List UInt8} {neg : Bool} {m d : Nat} (hd : d ≠ 0) (hm : (dd m).length ≤ 10000000) (hdl : (dd d).length ≤ 10000000) (ha : a = txt (mkRat (sg neg m) d)) :
    ptail a neg (dd m) (dd d) = some (((neg, dd m, dd d), true, ()), ()) := by
  obtain ⟨r, h1, h2⟩ := r_fin neg m d hd hm hdl
  have t1 := trim_dval (dd_D m) (dd_ne m) (by omega)
  have t2 := trim_dval (dd_D d) (dd_ne d) (by omega)
  rw [dval_dd] at t1 t2
  have z := dd_beq_zero d
  rw [decide_eq_false hd] at z
  unfold ptail
  simp (disch := (first | omega | (simp only [maxN_eq, List.length_append, List.length_cons, List.length_nil, List.length_set, List.length_replicate, List.length_take, List.length_drop]; omega))) only [r_digits_eq (s := dd m) (by omega), r_digits_eq (s := dd d) (by omega), decide_eq_true (figs_dd m), decide_eq_true (figs_dd d), z, t1, t2, beq_of (rfl : dd m = dd m), beq_of (rfl : dd d = dd d), h1, h2, beq_of ha.symm, grd_tt, grd_and, grd_dec, grd_ne, cond_dt, cond_df, cond_et, cond_ef, cond_nt, cond_nf, w64, wu64, wu32, wu8, tm, td, bind_some', same_ee, same_er, same_re, same_rr, cond_t, cond_f, Bool.not_true, Bool.not_false]
theorem ptail_spec {a num den : List UInt8} {neg : Bool} (hn : num.length ≤ 1000000) (hdl : den.length ≤ 1000000) :
    (∃ m d, num = dd m ∧ den = dd d ∧ d ≠ 0 ∧ a = txt (mkRat (sg neg m) d) ∧ ptail a neg num den = some (((neg, num, den), true, ()), ())) ∨
    (ptail a neg num den = some ((bad, false, ()), ()) ∧ ¬ ∃ m d, num = dd m ∧ den = dd d ∧ d ≠ 0 ∧ a = txt (mkRat (sg neg m) d)) := by
  by_cases hex : ∃ m d, num = dd m ∧ den = dd d ∧ d ≠ 0 ∧ a = txt (mkRat (sg neg m) d)
  · obtain ⟨m, d, rfl, rfl, hd, ha⟩ := hex
    exact .inl ⟨m, d, rfl, rfl, hd, ha, ptail_good hd (by omega) (by omega) ha⟩
  · refine .inr ⟨?_, hex⟩
    have d1 := r_digits_eq (s := num) (by omega)
    have d2 := r_digits_eq (s := den) (by omega)
    unfold ptail bad
    by_cases f1 : figs num
    · by_cases f2 : figs den
      · have t1 := trim_dval f1.2 f1.1 (by omega)
        have t2 := trim_dval f2.2 f2.1 (by omega)
        by_cases z : den = [48]
        · simp (disch := (first | omega | (simp only [maxN_eq, List.length_append, List.length_cons, List.length_nil, List.length_set, List.length_replicate, List.length_take, List.length_drop]; omega))) only [d1, d2, decide_eq_true f1, decide_eq_true f2, beq_of z, grd_tt, grd_and, grd_dec, grd_ne, cond_dt, cond_df, cond_et, cond_ef, cond_nt, cond_nf, w64, wu64, wu32, wu8, tm, td, bind_some', same_ee, same_er, same_re, same_rr, cond_t, cond_f, Bool.not_true, Bool.not_false]
        · by_cases e1 : dd (dval num) = num
          · by_cases e2 : dd (dval den) = den
            · have hd : dval den ≠ 0 := fun e => z (by rw [← e2, e, dd_zero])
              obtain ⟨r, g1, g2⟩ := r_fin neg (dval num) (dval den) hd (by rw [e1]; omega) (by rw [e2]; omega)
              rw [e1, e2] at g1
              have hna : txt (mkRat (sg neg (dval num)) (dval den)) ≠ a := fun e => hex ⟨_, _, e1.symm, e2.symm, hd, e.symm⟩
              simp (disch := (first | omega | (simp only [maxN_eq, List.length_append, List.length_cons, List.length_nil, List.length_set, List.length_replicate, List.length_take, List.length_drop]; omega))) only [d1, d2, decide_eq_true f1, decide_eq_true f2, beq_ne z, t1, t2, beq_of e1, beq_of e2, g1, g2, beq_ne hna, grd_tt, grd_and, grd_dec, grd_ne, cond_dt, cond_df, cond_et, cond_ef, cond_nt, cond_nf, w64, wu64, wu32, wu8, tm, td, bind_some', same_ee, same_er, same_re, same_rr, cond_t, cond_f, Bool.not_true, Bool.not_false]
            · simp (disch := (first | omega | (simp only [maxN_eq, List.length_append, List.length_cons, List.length_nil, List.length_set, List.length_replicate, List.length_take, List.length_drop]; omega))) only [d1, d2, decide_eq_true f1, decide_eq_true f2, beq_ne z, t1, t2, beq_of e1, beq_ne e2, grd_tt, grd_and, grd_dec, grd_ne, cond_dt, cond_df, cond_et, cond_ef, cond_nt, cond_nf, w64, wu64, wu32, wu8, tm, td, bind_some', same_ee, same_er, same_re, same_rr, cond_t, cond_f, Bool.not_true, Bool.not_false]
          · simp (disch := (first | omega | (simp only [maxN_eq, List.length_append, List.length_cons, List.length_nil, List.length_set, List.length_replicate, List.length_take, List.length_drop]; omega))) only [d1, d2, decide_eq_true f1, decide_eq_true f2, beq_ne z, t1, beq_ne e1, grd_tt, grd_and, grd_dec, grd_ne, cond_dt, cond_df, cond_et, cond_ef, cond_nt, cond_nf, w64, wu64, wu32, wu8, tm, td, bind_some', same_ee, same_er, same_re, same_rr, cond_t, cond_f, Bool.not_true, Bool.not_false]
      · simp (disch := (first | omega | (simp only [maxN_eq, List.length_append, List.length_cons, List.length_nil, List.length_set, List.length_replicate, List.length_take, List.length_drop]; omega))) only [d1, d2, decide_eq_true f1, decide_eq_false f2, grd_tt, grd_and, grd_dec, grd_ne, cond_dt, cond_df, cond_et, cond_ef, cond_nt, cond_nf, w64, wu64, wu32, wu8, tm, td, bind_some', same_ee, same_er, same_re, same_rr, cond_t, cond_f, Bool.not_true, Bool.not_false]
    · simp (disch := (first | omega | (simp only [maxN_eq, List.length_append, List.length_cons, List.length_nil, List.length_set, List.length_replicate, List.length_take, List.length_drop]; omega))) only [d1, decide_eq_false f1, grd_tt, grd_and, grd_dec, grd_ne, cond_dt, cond_df, cond_et, cond_ef, cond_nt, cond_nf, w64, wu64, wu32, wu8, tm, td, bind_some', same_ee, same_er, same_re, same_rr, cond_t, cond_f, Bool.not_true, Bool.not_false]
theorem s6_eq (a s : List UInt8) (t2 : Bool × List UInt8 × List UInt8) (neg : Bool) (hl : s.length ≤ 1000000000) :
    ∃ num den i, loopO r_parse_s6 (a, t2, (neg, [], [49]), s, 0, ()) = some (Ex.exit 0, (a, t2, (neg, [], den), num, i, ())) ∧
      ((s = num ∧ den = [49] ∧ (47 : UInt8) ∉ s) ∨ (s = num ++ 47 :: den ∧ (47 : UInt8) ∉ num)) := by
  obtain ⟨r, hr, num, den, i, rfl, hq⟩ := loopO_ind (step := r_parse_s6) (Q := fun r => ∃ num den i, r = (Ex.exit 0, (a, t2, (neg, [], den), num, i, ())) ∧ ((s = num ∧ den = [49] ∧ (47 : UInt8) ∉ s) ∨ (s = num ++ 47 :: den ∧ (47 : UInt8) ∉ num)))
    (fun m x => ∃ k : Nat, m + k = s.length ∧ x = (a, t2, (neg, [], [49]), s, (k : Int), ()) ∧ (47 : UInt8) ∉ s.take k) (by
      rintro m x ⟨k, hm, rfl, hk⟩
      by_cases h : k < s.length
      · have hg := getD_u8 h
        have e : (k : Int).toNat = k := by omega
        have e1 : ((k : Int) + 1).toNat = k + 1 := by omega
        by_cases h47 : s[k] = 47
        · have hc : ((s[k].toNat : Nat) : Int) = 47 := by rw [h47]; rfl
          refine .inl ⟨(Ex.exit 0, (a, t2, (neg, [], s.drop (k + 1)), s.take k, (k : Int), ())), ?_, by simp, s.take k, s.drop (k + 1), (k : Int), rfl, .inr ⟨?_, hk⟩⟩
          · simp (disch := (first | omega | (simp only [maxN_eq, List.length_append, List.length_cons, List.length_nil, List.length_set, List.length_replicate, List.length_take, List.length_drop]; omega))) only [r_parse_s6, e, e1, hg, hc, grd_tt, grd_and, grd_dec, grd_ne, cond_dt, cond_df, cond_et, cond_ef, cond_nt, cond_nf, w64, wu64, wu32, wu8, tm, td, bind_some', same_ee, same_er, same_re, same_rr, cond_t, cond_f, Bool.not_true, Bool.not_false]
          · conv => lhs; rw [← List.take_append_drop k s, List.drop_eq_getElem_cons h, h47]
        · have hc : ((s[k].toNat : Nat) : Int) ≠ 47 := fun e => h47 (UInt8.toNat_inj.1 (by show s[k].toNat = 47; omega))
          refine .inr ⟨m - 1, (a, t2, (neg, [], [49]), s, ((k + 1 : Nat) : Int), ()), ?_, by omega, k + 1, by omega, rfl, ?_⟩
          · simp (disch := (first | omega | (simp only [maxN_eq, List.length_append, List.length_cons, List.length_nil, List.length_set, List.length_replicate, List.length_take, List.length_drop]; omega))) only [r_parse_s6, e, hg, cond_ef hc, grd_tt, grd_and, grd_dec, grd_ne, cond_dt, cond_df, cond_et, cond_ef, cond_nt, cond_nf, w64, wu64, wu32, wu8, tm, td, bind_some', same_ee, same_er, same_re, same_rr, cond_t, cond_f, Bool.not_true, Bool.not_false]
            rfl
          · rw [List.take_succ_eq_append_getElem h]
            intro hm'
            rcases List.mem_append.1 hm' with hm' | hm'
            · exact hk hm'
            · exact h47 (List.mem_singleton.1 hm').symm
      · have hks : k = s.length := by omega
        subst hks
        refine .inl ⟨(Ex.exit 0, (a, t2, (neg, [], [49]), s, (s.length : Int), ())), ?_, by simp, s, [49], _, rfl, .inl ⟨rfl, rfl, by simpa using hk⟩⟩
        simp (disch := (first | omega | (simp only [maxN_eq, List.length_append, List.length_cons, List.length_nil, List.length_set, List.length_replicate, List.length_take, List.length_drop]; omega))) only [r_parse_s6, grd_tt, grd_and, grd_dec, grd_ne, cond_dt, cond_df, cond_et, cond_ef, cond_nt, cond_nf, w64, wu64, wu32, wu8, tm, td, bind_some', same_ee, same_er, same_re, same_rr, cond_t, cond_f, Bool.not_true, Bool.not_false]) s.length _ ⟨0, by omega, rfl, by simp⟩
  exact ⟨num, den, i, hr, hq⟩
theorem parse_split (a : List UInt8) (hl : a.length ≤ 1000000000) : ∃ neg s num den, a = sgn neg ++ s ∧ (neg = false → ∀ r, s ≠ 45 :: r) ∧ ((s = num ∧ den = [49] ∧ (47 : UInt8) ∉ s) ∨ (s = num ++ 47 :: den ∧ (47 : UInt8) ∉ num)) ∧ r_parse a = ptail a neg num den := by
  have h00 : ((0 : Int)).toNat = 0 := rfl
  have h11 : ((1 : Int)).toNat = 1 := rfl
  by_cases h0 : a = []
  · subst h0
    obtain ⟨num, den, i, hs, hq⟩ := s6_eq [] [] (false, [], []) false (by simp)
    refine ⟨false, [], num, den, rfl, fun _ r => by simp, hq, ?_⟩
    unfold r_parse
    simp (disch := (first | omega | (simp only [maxN_eq, List.length_append, List.length_cons, List.length_nil, List.length_set, List.length_replicate, List.length_take, List.length_drop]; omega))) only [hs, grd_tt, grd_and, grd_dec, grd_ne, cond_dt, cond_df, cond_et, cond_ef, cond_nt, cond_nf, w64, wu64, wu32, wu8, tm, td, bind_some', same_ee, same_er, same_re, same_rr, cond_t, cond_f, Bool.not_true, Bool.not_false]
    rfl
  · cases a with
    | nil => exact absurd rfl h0
    | cons c s =>
      have hne := beq_ne h0
      have hg : (c :: s : List UInt8).getD 0 0 = c := rfl
      have hlen : (c :: s).length = s.length + 1 := rfl
      by_cases hc : c = 45
      · subst hc
        obtain ⟨num, den, i, hs, hq⟩ := s6_eq (45 :: s) s (false, [], []) true (by omega)
        have h45 : (((45 : UInt8).toNat : Nat) : Int) = 45 := rfl
        refine ⟨true, s, num, den, rfl, (fun h => by cases h), hq, ?_⟩
        have hdrop : (45 :: s : List UInt8).drop 1 = s := rfl
        unfold r_parse
        simp (disch := (first | omega | (simp only [maxN_eq, List.length_append, List.length_cons, List.length_nil, List.length_set, List.length_replicate, List.length_take, List.length_drop]; omega))) only [hne, h00, hg, h45, h11, hdrop, hs, grd_tt, grd_and, grd_dec, grd_ne, cond_dt, cond_df, cond_et, cond_ef, cond_nt, cond_nf, w64, wu64, wu32, wu8, tm, td, bind_some', same_ee, same_er, same_re, same_rr, cond_t, cond_f, Bool.not_true, Bool.not_false]
        rfl
      · have hcn : ((c.toNat : Nat) : Int) ≠ 45 := fun e => hc (UInt8.toNat_inj.1 (by show c.toNat = 45; omega))
        obtain ⟨num, den, i, hs, hq⟩ := s6_eq (c :: s) (c :: s) (false, [], []) false (by omega)
        refine ⟨false, c :: s, num, den, rfl, fun _ r h => hc (by simpa using (List.cons.inj h).1), hq, ?_⟩
        unfold r_parse
        simp (disch := (first | omega | (simp only [maxN_eq, List.length_append, List.length_cons, List.length_nil, List.length_set, List.length_replicate, List.length_take, List.length_drop]; omega))) only [hne, h00, hg, cond_ef hcn, hs, grd_tt, grd_and, grd_dec, grd_ne, cond_dt, cond_df, cond_et, cond_ef, cond_nt, cond_nf, w64, wu64, wu32, wu8, tm, td, bind_some', same_ee, same_er, same_re, same_rr, cond_t, cond_f, Bool.not_true, Bool.not_false]
        rfl
theorem r_parse_spec (a : List UInt8) (hl : a.length ≤ 1000000) :
    (∃ q, a = txt q ∧ r_parse a = some (((decide (q.num < 0), dd q.num.natAbs, dd q.den), true, ()), ())) ∨ (r_parse a = some ((bad, false, ()), ()) ∧ rd a = none) := by
  obtain ⟨neg, s, num, den, ha, hs, hq, hp⟩ := parse_split a (by omega)
  have hsl : s.length ≤ 1000000 := by rw [ha, List.length_append] at hl; omega
  have hnl : num.length ≤ 1000000 ∧ den.length ≤ 1000000 := by
    rcases hq with ⟨rfl, rfl, _⟩ | ⟨rfl, _⟩
    · exact ⟨hsl, by simp⟩
    · rw [List.length_append, List.length_cons] at hsl; exact ⟨by omega, by omega⟩
  -- what a canonical form's parts are
  have shp : ∀ q, a = txt q → neg = decide (q.num < 0) ∧ num = dd q.num.natAbs ∧ den = dd q.den := by
    intro q h
    obtain ⟨e1, e2⟩ := shape hs (ha ▸ h)
    refine ⟨e1, ?_⟩
    rcases hq with ⟨rfl, rfl, hx⟩ | ⟨rfl, hx⟩
    · by_cases hd : q.den = 1
      · rw [if_pos hd, List.append_nil] at e2
        exact ⟨e2, by rw [hd, dd_one]⟩
      · rw [if_neg hd] at e2
        exact absurd (by rw [e2]; simp) hx
    · by_cases hd : q.den = 1
      · rw [if_pos hd, List.append_nil] at e2
        exact absurd (show (47 : UInt8) ∈ dd q.num.natAbs by rw [← e2]; simp) not_47
      · rw [if_neg hd] at e2
        exact append_47 hx not_47 e2
  rw [hp]
  rcases ptail_spec (a := a) (neg := neg) hnl.1 hnl.2 with ⟨m, d, rfl, rfl, hd, hat, hg⟩ | ⟨hg, hno⟩
  · obtain ⟨e1, e2, e3⟩ := shp _ hat
    refine .inl ⟨_, hat, ?_⟩
    rw [hg, ← e1, ← e2, ← e3]
  · refine .inr ⟨hg, rd_none fun q h => hno ?_⟩
    obtain ⟨e1, e2, e3⟩ := shp q h
    refine ⟨q.num.natAbs, q.den, e2, e3, q.den_nz, ?_⟩
    rw [e1, sg_self, Rat.mkRat_self]; exact h
theorem r_parse_txt (q : Rat) (h : D q ≤ 900000) : r_parse (txt q) = some (((decide (q.num < 0), dd q.num.natAbs, dd q.den), true, ()), ()) := by
  rcases r_parse_spec (txt q) (by have := txt_len q; omega) with ⟨p, hp, hr⟩ | ⟨_, hn⟩
  · rw [hr, txt_inj hp]
  · rw [rd_txt] at hn; cases hn
theorem r_parse_none {a : List UInt8} (hl : a.length ≤ 1000000) (h : rd a = none) : r_parse a = some ((bad, false, ()), ()) := by
  rcases r_parse_spec a hl with ⟨p, hp, hr⟩ | ⟨hr, _⟩
  · rw [hp, rd_txt] at h; cases h
  · exact hr
end Go.AM.Num
end
section
set_option linter.unusedSimpArgs false
set_option linter.unusedVariables false
namespace Go.AM.Num

theorem rp (a : List UInt8) (hl : a.length ≤ 1000000) :
    (∃ q, a = txt q ∧ rd a = some q ∧ D q ≤ 1000001 ∧ r_parse a = some (((decide (q.num < 0), dd q.num.natAbs, dd q.den), true, ()), ())) ∨ (rd a = none ∧ r_parse a = some ((bad, false, ()), ())) := by
  rcases r_parse_spec a hl with ⟨q, rfl, h⟩ | ⟨h1, h2⟩
  · exact .inl ⟨q, rfl, rd_txt q, D_of_len hl, h⟩
  · exact .inr ⟨h2, h1⟩
theorem rneg_form (q : Rat) (neg : Bool) : (neg && decide (q.num.natAbs ≠ 0), dd q.num.natAbs, dd q.den) = rr neg q.num.natAbs q.den := rfl
theorem r_valid_eq {a : List UInt8} (ha : a.length ≤ 1000000) : r_Valid a = some (((rd a).isSome, ()), ()) := by
  unfold r_Valid
  rcases rp a ha with ⟨q, e, hr, _, hp⟩ | ⟨hr, hp⟩
  · rw [hr]; simp (disch := (first | omega | (simp only [maxN_eq, List.length_append, List.length_cons, List.length_nil, List.length_set, List.length_replicate, List.length_take, List.length_drop]; omega))) only [hp, grd_tt, grd_and, grd_dec, grd_ne, cond_dt, cond_df, cond_et, cond_ef, cond_nt, cond_nf, w64, wu64, wu32, wu8, tm, td, bind_some', same_ee, same_er, same_re, same_rr, cond_t, cond_f, Bool.not_true, Bool.not_false]; rfl
  · rw [hr]; simp (disch := (first | omega | (simp only [maxN_eq, List.length_append, List.length_cons, List.length_nil, List.length_set, List.length_replicate, List.length_take, List.length_drop]; omega))) only [hp, grd_tt, grd_and, grd_dec, grd_ne, cond_dt, cond_df, cond_et, cond_ef, cond_nt, cond_nf, w64, wu64, wu32, wu8, tm, td, bind_some', same_ee, same_er, same_re, same_rr, cond_t, cond_f, Bool.not_true, Bool.not_false]; rfl
theorem r_isInt_eq {a : List UInt8} (ha : a.length ≤ 1000000) : r_IsInt a = some ((isI a, ()), ()) := by
  unfold r_IsInt isI
  rcases rp a ha with ⟨q, e, hr, _, hp⟩ | ⟨hr, hp⟩
  · rw [hr]
    simp (disch := (first | omega | (simp only [maxN_eq, List.length_append, List.length_cons, List.length_nil, List.length_set, List.length_replicate, List.length_take, List.length_drop]; omega))) only [hp, dd_beq_one, grd_tt, grd_and, grd_dec, grd_ne, cond_dt, cond_df, cond_et, cond_ef, cond_nt, cond_nf, w64, wu64, wu32, wu8, tm, td, bind_some', same_ee, same_er, same_re, same_rr, cond_t, cond_f, Bool.not_true, Bool.not_false]
    rfl
  · rw [hr]; simp (disch := (first | omega | (simp only [maxN_eq, List.length_append, List.length_cons, List.length_nil, List.length_set, List.length_replicate, List.length_take, List.length_drop]; omega))) only [hp, grd_tt, grd_and, grd_dec, grd_ne, cond_dt, cond_df, cond_et, cond_ef, cond_nt, cond_nf, w64, wu64, wu32, wu8, tm, td, bind_some', same_ee, same_er, same_re, same_rr, cond_t, cond_f, Bool.not_true, Bool.not_false]
theorem r_sign_eq {a : List UInt8} (ha : a.length ≤ 1000000) : r_Sign a = some ((sSign a, ()), ()) := by
  unfold r_Sign sSign
  rcases rp a ha with ⟨q, e, hr, _, hp⟩ | ⟨hr, hp⟩
  · rw [hr]
    rcases Int.lt_trichotomy q.num 0 with h | h | h
    · simp (disch := (first | omega | (simp only [maxN_eq, List.length_append, List.length_cons, List.length_nil, List.length_set, List.length_replicate, List.length_take, List.length_drop]; omega))) only [hp, dd_beq_zero, decide_eq_false (show ¬ q.num.natAbs = 0 by omega), decide_eq_true h, grd_tt, grd_and, grd_dec, grd_ne, cond_dt, cond_df, cond_et, cond_ef, cond_nt, cond_nf, w64, wu64, wu32, wu8, tm, td, bind_some', same_ee, same_er, same_re, same_rr, cond_t, cond_f, Bool.not_true, Bool.not_false]
      rw [Int.sign_eq_neg_one_of_neg h]
    · simp (disch := (first | omega | (simp only [maxN_eq, List.length_append, List.length_cons, List.length_nil, List.length_set, List.length_replicate, List.length_take, List.length_drop]; omega))) only [hp, dd_beq_zero, decide_eq_true (show q.num.natAbs = 0 by omega), grd_tt, grd_and, grd_dec, grd_ne, cond_dt, cond_df, cond_et, cond_ef, cond_nt, cond_nf, w64, wu64, wu32, wu8, tm, td, bind_some', same_ee, same_er, same_re, same_rr, cond_t, cond_f, Bool.not_true, Bool.not_false]
      rw [h]; rfl
    · simp (disch := (first | omega | (simp only [maxN_eq, List.length_append, List.length_cons, List.length_nil, List.length_set, List.length_replicate, List.length_take, List.length_drop]; omega))) only [hp, dd_beq_zero, decide_eq_false (show ¬ q.num.natAbs = 0 by omega), decide_eq_false (show ¬ q.num < 0 by omega), grd_tt, grd_and, grd_dec, grd_ne, cond_dt, cond_df, cond_et, cond_ef, cond_nt, cond_nf, w64, wu64, wu32, wu8, tm, td, bind_some', same_ee, same_er, same_re, same_rr, cond_t, cond_f, Bool.not_true, Bool.not_false]
      rw [Int.sign_eq_one_of_pos h]
  · rw [hr]; simp (disch := (first | omega | (simp only [maxN_eq, List.length_append, List.length_cons, List.length_nil, List.length_set, List.length_replicate, List.length_take, List.length_drop]; omega))) only [hp, grd_tt, grd_and, grd_dec, grd_ne, cond_dt, cond_df, cond_et, cond_ef, cond_nt, cond_nf, w64, wu64, wu32, wu8, tm, td, bind_some', same_ee, same_er, same_re, same_rr, cond_t, cond_f, Bool.not_true, Bool.not_false]
theorem r_text_q (neg : Bool) (q : Rat) (h : D q ≤ 1000001) : r_ratio_text (neg && decide (q.num.natAbs ≠ 0), dd q.num.natAbs, dd q.den) = some ((tx neg q.num.natAbs q.den, ()), ()) :=
  r_text_eq neg _ _ (by have := num_len q; omega) (by have := den_len q; omega)
theorem tx_neg (q : Rat) : tx (!decide (q.num < 0)) q.num.natAbs q.den = txt (-q) := by
  unfold tx txt
  rw [Rat.neg_num, Rat.neg_den, Int.natAbs_neg]
  have : ((!decide (q.num < 0)) = true ∧ q.num.natAbs ≠ 0) ↔ -q.num < 0 := by
    constructor
    · rintro ⟨h1, h2⟩
      have : ¬ q.num < 0 := by simpa using h1
      omega
    · intro h; exact ⟨by rw [decide_eq_false (by omega)]; rfl, by omega⟩
  simp only [this]
theorem r_neg_eq {a : List UInt8} (ha : a.length ≤ 1000000) : r_Neg a = some ((un (fun q => txt (-q)) a, ()), ()) := by
  unfold r_Neg
  rcases rp a ha with ⟨q, e, hr, hD, hp⟩ | ⟨hr, hp⟩
  · rw [e] at hp ⊢
    rw [un_txt]
    by_cases h : q.num < 0
    · have ht := r_text_q false q hD
      have e1 := tx_neg q
      rw [decide_eq_true h] at e1
      simp only [Bool.not_true] at e1
      rw [e1] at ht
      simp (disch := (first | omega | (simp only [maxN_eq, List.length_append, List.length_cons, List.length_nil, List.length_set, List.length_replicate, List.length_take, List.length_drop]; omega))) only [hp, decide_eq_true h, grd_tt, grd_and, grd_dec, grd_ne, cond_dt, cond_df, cond_et, cond_ef, cond_nt, cond_nf, w64, wu64, wu32, wu8, tm, td, bind_some', same_ee, same_er, same_re, same_rr, cond_t, cond_f, Bool.not_true, Bool.not_false]
      simp only [Bool.false_and] at ht
      rw [ht]; rfl
    · have ht := r_text_q true q hD
      have e1 := tx_neg q
      rw [decide_eq_false h] at e1
      simp only [Bool.not_false] at e1
      rw [e1] at ht
      have e2 : (!(dd q.num.natAbs == [48])) = (true && decide (q.num.natAbs ≠ 0)) := by rw [dd_beq_zero]; simp
      rw [← e2] at ht
      simp (disch := (first | omega | (simp only [maxN_eq, List.length_append, List.length_cons, List.length_nil, List.length_set, List.length_replicate, List.length_take, List.length_drop]; omega))) only [hp, decide_eq_false h, grd_tt, grd_and, grd_dec, grd_ne, cond_dt, cond_df, cond_et, cond_ef, cond_nt, cond_nf, w64, wu64, wu32, wu8, tm, td, bind_some', same_ee, same_er, same_re, same_rr, cond_t, cond_f, Bool.not_true, Bool.not_false]
      rw [ht]; rfl
  · rw [un_none hr]; simp (disch := (first | omega | (simp only [maxN_eq, List.length_append, List.length_cons, List.length_nil, List.length_set, List.length_replicate, List.length_take, List.length_drop]; omega))) only [hp, grd_tt, grd_and, grd_dec, grd_ne, cond_dt, cond_df, cond_et, cond_ef, cond_nt, cond_nf, w64, wu64, wu32, wu8, tm, td, bind_some', same_ee, same_er, same_re, same_rr, cond_t, cond_f, Bool.not_true, Bool.not_false]
theorem r_op (neg : Bool) (m d : Nat) (hd : d ≠ 0) (hm : (dd m).length ≤ 10000000) (hdl : (dd d).length ≤ 10000000) {ρ : Type} (K : List UInt8 → Option ρ) :
    (r_reduce neg (dd m) (dd d)).bind (fun r5 => (r_ratio_text (r5.1.1.1, r5.1.1.2.1, r5.1.1.2.2)).bind fun r6 => K r6.1.1) = K (txt (mkRat (sg neg m) d)) := by
  obtain ⟨r, h1, h2⟩ := r_fin neg m d hd hm hdl
  rw [h1, bind_some']
  show (r_ratio_text (r.1, r.2.1, r.2.2)).bind _ = _
  rw [h2]; rfl
theorem r_add_eq' {a b : List UInt8} (ha : a.length ≤ 900000) (hb : b.length ≤ 900000) : r_Add a b = some ((bin (fun p q => txt (p + q)) a b, ()), ()) := by
  unfold r_Add
  rcases rp a (by omega) with ⟨p, rfl, hr1, hD1, hp1⟩ | ⟨hr1, hp1⟩
  · rcases rp b (by omega) with ⟨q, rfl, hr2, hD2, hp2⟩ | ⟨hr2, hp2⟩
    · rw [bin_txt, add_form]
      have a1 := num_len p
      have a2 := den_len p
      have a3 := num_len q
      have a4 := den_len q
      have b1 := dd_len_mul p.num.natAbs q.den
      have b2 := dd_len_mul q.num.natAbs p.den
      have b3 := dd_len_mul p.den q.den
      have b4 := dd_len_add (p.num.natAbs * q.den) (q.num.natAbs * p.den)
      have b5 := dd_len_mono (Nat.sub_le (p.num.natAbs * q.den) (q.num.natAbs * p.den))
      have b6 := dd_len_mono (Nat.sub_le (q.num.natAbs * p.den) (p.num.natAbs * q.den))
      have m1 := r_mul_eq p.num.natAbs q.den (by omega) (by omega)
      have m2 := r_mul_eq q.num.natAbs p.den (by omega) (by omega)
      have m3 := r_mul_eq p.den q.den (by omega) (by omega)
      have hd0 : p.den * q.den ≠ 0 := Nat.mul_ne_zero p.den_nz q.den_nz
      obtain ⟨x, hx⟩ : ∃ x, x = p.num.natAbs * q.den := ⟨_, rfl⟩
      obtain ⟨y, hy⟩ : ∃ y, y = q.num.natAbs * p.den := ⟨_, rfl⟩
      rw [← hx] at b1 b4 b5 b6 m1 ⊢
      rw [← hy] at b2 b4 b5 b6 m2 ⊢
      obtain ⟨n1, hn1⟩ : ∃ n, n = decide (p.num < 0) := ⟨_, rfl⟩
      obtain ⟨n2, hn2⟩ : ∃ n, n = decide (q.num < 0) := ⟨_, rfl⟩
      rw [← hn1] at hp1 ⊢
      rw [← hn2] at hp2 ⊢
      by_cases hs : n1 = n2
      · subst hs
        have e : sg n1 x + sg n1 y = sg n1 (x + y) := by cases n1 <;> simp [sg]; omega
        rw [e]
        simp (disch := (first | omega | (simp only [maxN_eq, List.length_append, List.length_cons, List.length_nil, List.length_set, List.length_replicate, List.length_take, List.length_drop]; omega))) only [hp1, hp2, m1, m2, m3, beq_self_eq_true, r_add_eq x y (by omega) (by omega), grd_tt, grd_and, grd_dec, grd_ne, cond_dt, cond_df, cond_et, cond_ef, cond_nt, cond_nf, w64, wu64, wu32, wu8, tm, td, bind_some', same_ee, same_er, same_re, same_rr, cond_t, cond_f, Bool.not_true, Bool.not_false]
        exact r_op n1 (x + y) (p.den * q.den) hd0 (by omega) (by omega) (fun t => some ((t, ()), ()))
      · have hsb : (n1 == n2) = false := by simpa using hs
        obtain ⟨c, hc, hc1, hc2⟩ := r_cmp_eq x y
        by_cases hle : y ≤ x
        · have hc0 : c ≥ 0 := by
            rcases Int.lt_or_le c 0 with h | h
            · have := hc1.1 h; omega
            · exact h
          have e : sg n1 x + sg n2 y = sg n1 (x - y) := by cases n1 <;> cases n2 <;> simp_all [sg] <;> omega
          rw [e]
          simp (disch := (first | omega | (simp only [maxN_eq, List.length_append, List.length_cons, List.length_nil, List.length_set, List.length_replicate, List.length_take, List.length_drop]; omega))) only [hp1, hp2, m1, m2, m3, hsb, hc, r_sub_eq x y (by omega) hle, grd_tt, grd_and, grd_dec, grd_ne, cond_dt, cond_df, cond_et, cond_ef, cond_nt, cond_nf, w64, wu64, wu32, wu8, tm, td, bind_some', same_ee, same_er, same_re, same_rr, cond_t, cond_f, Bool.not_true, Bool.not_false]
          exact r_op n1 (x - y) (p.den * q.den) hd0 (by omega) (by omega) (fun t => some ((t, ()), ()))
        · have hc0 : ¬ c ≥ 0 := by have := hc1.2 (by omega); omega
          have e : sg n1 x + sg n2 y = sg n2 (y - x) := by cases n1 <;> cases n2 <;> simp_all [sg] <;> omega
          rw [e]
          simp (disch := (first | omega | (simp only [maxN_eq, List.length_append, List.length_cons, List.length_nil, List.length_set, List.length_replicate, List.length_take, List.length_drop]; omega))) only [hp1, hp2, m1, m2, m3, hsb, hc, r_sub_eq y x (by omega) (by omega), grd_tt, grd_and, grd_dec, grd_ne, cond_dt, cond_df, cond_et, cond_ef, cond_nt, cond_nf, w64, wu64, wu32, wu8, tm, td, bind_some', same_ee, same_er, same_re, same_rr, cond_t, cond_f, Bool.not_true, Bool.not_false]
          exact r_op n2 (y - x) (p.den * q.den) hd0 (by omega) (by omega) (fun t => some ((t, ()), ()))
    · rw [bin_r hr2]; simp (disch := (first | omega | (simp only [maxN_eq, List.length_append, List.length_cons, List.length_nil, List.length_set, List.length_replicate, List.length_take, List.length_drop]; omega))) only [hp1, hp2, grd_tt, grd_and, grd_dec, grd_ne, cond_dt, cond_df, cond_et, cond_ef, cond_nt, cond_nf, w64, wu64, wu32, wu8, tm, td, bind_some', same_ee, same_er, same_re, same_rr, cond_t, cond_f, Bool.not_true, Bool.not_false]
  · rcases rp b (by omega) with ⟨q, rfl, hr2, hD2, hp2⟩ | ⟨hr2, hp2⟩ <;> (rw [bin_l hr1]; simp (disch := (first | omega | (simp only [maxN_eq, List.length_append, List.length_cons, List.length_nil, List.length_set, List.length_replicate, List.length_take, List.length_drop]; omega))) only [hp1, hp2, grd_tt, grd_and, grd_dec, grd_ne, cond_dt, cond_df, cond_et, cond_ef, cond_nt, cond_nf, w64, wu64, wu32, wu8, tm, td, bind_some', same_ee, same_er, same_re, same_rr, cond_t, cond_f, Bool.not_true, Bool.not_false])
theorem r_mul_eq' {a b : List UInt8} (ha : a.length ≤ 900000) (hb : b.length ≤ 900000) : r_Mul a b = some ((bin (fun p q => txt (p * q)) a b, ()), ()) := by
  unfold r_Mul
  rcases rp a (by omega) with ⟨p, rfl, hr1, hD1, hp1⟩ | ⟨hr1, hp1⟩
  · rcases rp b (by omega) with ⟨q, rfl, hr2, hD2, hp2⟩ | ⟨hr2, hp2⟩
    · rw [bin_txt, Rat.mul_def']
      have a1 := num_len p
      have a2 := den_len p
      have a3 := num_len q
      have a4 := den_len q
      have b1 := dd_len_mul p.num.natAbs q.num.natAbs
      have b3 := dd_len_mul p.den q.den
      have m1 := r_mul_eq p.num.natAbs q.num.natAbs (by omega) (by omega)
      have m3 := r_mul_eq p.den q.den (by omega) (by omega)
      have e : p.num * q.num = sg (decide (p.num < 0) != decide (q.num < 0)) (p.num.natAbs * q.num.natAbs) := by rw [← sg_mul, sg_self, sg_self]
      rw [e]
      simp (disch := (first | omega | (simp only [maxN_eq, List.length_append, List.length_cons, List.length_nil, List.length_set, List.length_replicate, List.length_take, List.length_drop]; omega))) only [hp1, hp2, m1, m3, grd_tt, grd_and, grd_dec, grd_ne, cond_dt, cond_df, cond_et, cond_ef, cond_nt, cond_nf, w64, wu64, wu32, wu8, tm, td, bind_some', same_ee, same_er, same_re, same_rr, cond_t, cond_f, Bool.not_true, Bool.not_false]
      exact r_op _ (p.num.natAbs * q.num.natAbs) (p.den * q.den) (Nat.mul_ne_zero p.den_nz q.den_nz) (by omega) (by omega) (fun t => some ((t, ()), ()))
    · rw [bin_r hr2]; simp (disch := (first | omega | (simp only [maxN_eq, List.length_append, List.length_cons, List.length_nil, List.length_set, List.length_replicate, List.length_take, List.length_drop]; omega))) only [hp1, hp2, grd_tt, grd_and, grd_dec, grd_ne, cond_dt, cond_df, cond_et, cond_ef, cond_nt, cond_nf, w64, wu64, wu32, wu8, tm, td, bind_some', same_ee, same_er, same_re, same_rr, cond_t, cond_f, Bool.not_true, Bool.not_false]
  · rcases rp b (by omega) with ⟨q, rfl, hr2, hD2, hp2⟩ | ⟨hr2, hp2⟩ <;> (rw [bin_l hr1]; simp (disch := (first | omega | (simp only [maxN_eq, List.length_append, List.length_cons, List.length_nil, List.length_set, List.length_replicate, List.length_take, List.length_drop]; omega))) only [hp1, hp2, grd_tt, grd_and, grd_dec, grd_ne, cond_dt, cond_df, cond_et, cond_ef, cond_nt, cond_nf, w64, wu64, wu32, wu8, tm, td, bind_some', same_ee, same_er, same_re, same_rr, cond_t, cond_f, Bool.not_true, Bool.not_false])
theorem r_div_eq' {a b : List UInt8} (ha : a.length ≤ 900000) (hb : b.length ≤ 900000) : r_Div a b = some ((bin qdiv a b, ()), ()) := by
  unfold r_Div
  rcases rp a (by omega) with ⟨p, rfl, hr1, hD1, hp1⟩ | ⟨hr1, hp1⟩
  · rcases rp b (by omega) with ⟨q, rfl, hr2, hD2, hp2⟩ | ⟨hr2, hp2⟩
    · rw [bin_txt]
      unfold qdiv
      by_cases hq : q = 0
      · have hn : q.num.natAbs = 0 := by rw [hq]; rfl
        rw [if_pos hq]
        simp (disch := (first | omega | (simp only [maxN_eq, List.length_append, List.length_cons, List.length_nil, List.length_set, List.length_replicate, List.length_take, List.length_drop]; omega))) only [hp1, hp2, dd_beq_zero, decide_eq_true hn, grd_tt, grd_and, grd_dec, grd_ne, cond_dt, cond_df, cond_et, cond_ef, cond_nt, cond_nf, w64, wu64, wu32, wu8, tm, td, bind_some', same_ee, same_er, same_re, same_rr, cond_t, cond_f, Bool.not_true, Bool.not_false]
      · have hn : q.num.natAbs ≠ 0 := fun e => hq (Rat.num_eq_zero.1 (by omega))
        rw [if_neg hq, Rat.div_def, inv_form q hq]
        have a1 := num_len p
        have a2 := den_len p
        have a3 := num_len q
        have a4 := den_len q
        have b1 := dd_len_mul p.num.natAbs q.den
        have b3 := dd_len_mul p.den q.num.natAbs
        have m1 := r_mul_eq p.num.natAbs q.den (by omega) (by omega)
        have m3 := r_mul_eq p.den q.num.natAbs (by omega) (by omega)
        have e : p * mkRat (sg (decide (q.num < 0)) q.den) q.num.natAbs = mkRat (sg (decide (p.num < 0) != decide (q.num < 0)) (p.num.natAbs * q.den)) (p.den * q.num.natAbs) := by
          rw [← sg_mul, ← Rat.mkRat_mul_mkRat, sg_self, Rat.mkRat_self]
        rw [e]
        simp (disch := (first | omega | (simp only [maxN_eq, List.length_append, List.length_cons, List.length_nil, List.length_set, List.length_replicate, List.length_take, List.length_drop]; omega))) only [hp1, hp2, dd_beq_zero, decide_eq_false hn, m1, m3, grd_tt, grd_and, grd_dec, grd_ne, cond_dt, cond_df, cond_et, cond_ef, cond_nt, cond_nf, w64, wu64, wu32, wu8, tm, td, bind_some', same_ee, same_er, same_re, same_rr, cond_t, cond_f, Bool.not_true, Bool.not_false]
        exact r_op _ (p.num.natAbs * q.den) (p.den * q.num.natAbs) (Nat.mul_ne_zero p.den_nz hn) (by omega) (by omega) (fun t => some ((t, ()), ()))
    · rw [bin_r hr2]; simp (disch := (first | omega | (simp only [maxN_eq, List.length_append, List.length_cons, List.length_nil, List.length_set, List.length_replicate, List.length_take, List.length_drop]; omega))) only [hp1, hp2, grd_tt, grd_and, grd_dec, grd_ne, cond_dt, cond_df, cond_et, cond_ef, cond_nt, cond_nf, w64, wu64, wu32, wu8, tm, td, bind_some', same_ee, same_er, same_re, same_rr, cond_t, cond_f, Bool.not_true, Bool.not_false]
  · rcases rp b (by omega) with ⟨q, rfl, hr2, hD2, hp2⟩ | ⟨hr2, hp2⟩ <;> (rw [bin_l hr1]; simp (disch := (first | omega | (simp only [maxN_eq, List.length_append, List.length_cons, List.length_nil, List.length_set, List.length_replicate, List.length_take, List.length_drop]; omega))) only [hp1, hp2, grd_tt, grd_and, grd_dec, grd_ne, cond_dt, cond_df, cond_et, cond_ef, cond_nt, cond_nf, w64, wu64, wu32, wu8, tm, td, bind_some', same_ee, same_er, same_re, same_rr, cond_t, cond_f, Bool.not_true, Bool.not_false])
theorem r_sub_eq' {a b : List UInt8} (ha : a.length ≤ 200000) (hb : b.length ≤ 200000) : r_Sub a b = some ((bin (fun p q => txt (p - q)) a b, ()), ()) := by
  have h1 := sub_eq' (a := a) (b := b) (by omega) (by omega)
  unfold n_Sub at h1
  rw [neg_eq (by omega), bind_some'] at h1
  dsimp only at h1
  rw [Add_eq (by omega) (by have := neg_len hb; omega), bind_some'] at h1
  unfold r_Sub
  rw [r_neg_eq (by omega), bind_some']
  dsimp only
  rw [r_add_eq' (by omega) (by have := neg_len hb; omega), bind_some']
  exact h1
theorem r_cmp_eq' {a b : List UInt8} (ha : a.length ≤ 200000) (hb : b.length ≤ 200000) : r_Cmp a b = some ((sCmp a b, ()), ()) := by
  have h1 := cmp_eq' (a := a) (b := b) (by omega) (by omega)
  have hl := bin_len (f := fun p q => p - q) (fun p q => by rw [Rat.sub_eq_add_neg]; have := D_add p (-q); rw [D_neg] at this; exact this) ha hb
  unfold n_Cmp at h1
  rw [sub_eq' (by omega) (by omega), bind_some'] at h1
  dsimp only at h1
  rw [sign_eq (by omega), bind_some'] at h1
  unfold r_Cmp
  have v1 := r_valid_eq (a := a) (by omega)
  have v2 := r_valid_eq (a := b) (by omega)
  cases hr1 : rd a with
  | none =>
    have e : sCmp a b = 0 := by unfold sCmp; rw [hr1]
    rw [hr1] at v1
    rw [e]; simp (disch := (first | omega | (simp only [maxN_eq, List.length_append, List.length_cons, List.length_nil, List.length_set, List.length_replicate, List.length_take, List.length_drop]; omega))) only [v1, Option.isSome_none, grd_tt, grd_and, grd_dec, grd_ne, cond_dt, cond_df, cond_et, cond_ef, cond_nt, cond_nf, w64, wu64, wu32, wu8, tm, td, bind_some', same_ee, same_er, same_re, same_rr, cond_t, cond_f, Bool.not_true, Bool.not_false]
  | some p =>
    rw [hr1] at v1
    cases hr2 : rd b with
    | none =>
      have e : sCmp a b = 0 := by unfold sCmp; rw [hr1, hr2]
      rw [hr2] at v2
      rw [e]; simp (disch := (first | omega | (simp only [maxN_eq, List.length_append, List.length_cons, List.length_nil, List.length_set, List.length_replicate, List.length_take, List.length_drop]; omega))) only [v1, v2, Option.isSome_some, Option.isSome_none, grd_tt, grd_and, grd_dec, grd_ne, cond_dt, cond_df, cond_et, cond_ef, cond_nt, cond_nf, w64, wu64, wu32, wu8, tm, td, bind_some', same_ee, same_er, same_re, same_rr, cond_t, cond_f, Bool.not_true, Bool.not_false]
    | some q =>
      rw [hr2] at v2
      simp (disch := (first | omega | (simp only [maxN_eq, List.length_append, List.length_cons, List.length_nil, List.length_set, List.length_replicate, List.length_take, List.length_drop]; omega))) only [v1, v2, Option.isSome_some, r_sub_eq' (a := a) (b := b) (by omega) (by omega), grd_tt, grd_and, grd_dec, grd_ne, cond_dt, cond_df, cond_et, cond_ef, cond_nt, cond_nf, w64, wu64, wu32, wu8, tm, td, bind_some', same_ee, same_er, same_re, same_rr, cond_t, cond_f, Bool.not_true, Bool.not_false]
      rw [r_sign_eq (by omega), bind_some']
      exact h1
theorem r_abs_eq {a : List UInt8} (ha : a.length ≤ 1000000) : r_Abs a = some ((un (fun q => txt (qabs q)) a, ()), ()) := by
  have hs := r_sign_eq ha
  have hv := r_valid_eq ha
  unfold r_Abs r_Num0
  cases hr : rd a with
  | none =>
    have e : sSign a = 0 := by unfold sSign; rw [hr]
    rw [e] at hs
    rw [hr] at hv
    rw [un_none hr]
    simp (disch := (first | omega | (simp only [maxN_eq, List.length_append, List.length_cons, List.length_nil, List.length_set, List.length_replicate, List.length_take, List.length_drop]; omega))) only [hs, hv, Option.isSome_none, grd_tt, grd_and, grd_dec, grd_ne, cond_dt, cond_df, cond_et, cond_ef, cond_nt, cond_nf, w64, wu64, wu32, wu8, tm, td, bind_some', same_ee, same_er, same_re, same_rr, cond_t, cond_f, Bool.not_true, Bool.not_false]
  | some q =>
    have e : sSign a = q.num.sign := by unfold sSign; rw [hr]
    rw [e] at hs
    rw [hr] at hv
    have hu : un (fun q => txt (qabs q)) a = txt (qabs q) := by rw [rd_some hr, un_txt]
    rw [hu]
    by_cases h : q.num < 0
    · rw [Int.sign_eq_neg_one_of_neg h] at hs
      have hn := r_neg_eq ha
      have hu2 : un (fun q => txt (-q)) a = txt (-q) := by rw [rd_some hr, un_txt]
      rw [hu2] at hn
      simp (disch := (first | omega | (simp only [maxN_eq, List.length_append, List.length_cons, List.length_nil, List.length_set, List.length_replicate, List.length_take, List.length_drop]; omega))) only [hs, hn, grd_tt, grd_and, grd_dec, grd_ne, cond_dt, cond_df, cond_et, cond_ef, cond_nt, cond_nf, w64, wu64, wu32, wu8, tm, td, bind_some', same_ee, same_er, same_re, same_rr, cond_t, cond_f, Bool.not_true, Bool.not_false]
      unfold qabs; rw [if_pos h]
    · have hsn : ¬ q.num.sign < 0 := by rw [Int.sign_neg_iff]; exact h
      simp (disch := (first | omega | (simp only [maxN_eq, List.length_append, List.length_cons, List.length_nil, List.length_set, List.length_replicate, List.length_take, List.length_drop]; omega))) only [hs, hv, Option.isSome_some, grd_tt, grd_and, grd_dec, grd_ne, cond_dt, cond_df, cond_et, cond_ef, cond_nt, cond_nf, w64, wu64, wu32, wu8, tm, td, bind_some', same_ee, same_er, same_re, same_rr, cond_t, cond_f, Bool.not_true, Bool.not_false]
      unfold qabs; rw [if_neg h]; rw [← rd_some hr]
theorem r_int_text (neg : Bool) (m : Nat) (hm : (dd m).length ≤ 100000000) : r_ratio_text (neg && decide (m ≠ 0), dd m, [49]) = some ((txt ((sg neg m : Int) : Rat), ()), ()) := by
  have := r_text_eq neg m 1 hm (by rw [dd_one]; decide)
  unfold rr at this
  rw [dd_one] at this
  rw [← tx_int]; exact this
theorem r_floor_eq {a : List UInt8} (ha : a.length ≤ 1000000) : r_Floor a = some ((un (fun q => txt ((q.floor : Int) : Rat)) a, ()), ()) := by
  unfold r_Floor
  rcases rp a ha with ⟨q, rfl, hr, hD, hp⟩ | ⟨hr, hp⟩
  · rw [un_txt, Rat.floor_def]
    have a1 := num_len q
    have a2 := den_len q
    have hdv := r_div_eq q.num.natAbs q.den (by omega) (by omega) q.den_nz
    have b1 := dd_len_mono (Nat.div_le_self q.num.natAbs q.den)
    have b4 := dd_len_add (q.num.natAbs / q.den) 1
    rw [dd_one] at b4
    have b5 : ([49] : List UInt8).length = 1 := rfl
    obtain ⟨d1, d2⟩ := sg_divmod (decide (q.num < 0)) false q.num.natAbs q.den q.den_nz
    rw [sg_self] at d1 d2
    have e0 : sg false q.den = (q.den : Int) := rfl
    rw [e0, Bool.bne_false] at d1 d2
    obtain ⟨k, hk⟩ : ∃ k, k = q.num.natAbs / q.den := ⟨_, rfl⟩
    obtain ⟨r, hr'⟩ : ∃ r, r = q.num.natAbs % q.den := ⟨_, rfl⟩
    rw [← hk] at hdv b1 b4 d1 d2
    rw [← hr'] at hdv d1 d2
    have z1 : ∀ m, (!(dd m == [48])) = (true && decide (m ≠ 0)) := fun m => by rw [dd_beq_zero]; simp
    by_cases hneg : q.num < 0
    · rw [decide_eq_true hneg] at hp d1 d2
      by_cases hr0 : r = 0
      · rw [(d1 (by simp [hr0])).1]
        have zr := dd_beq_zero r
        rw [decide_eq_true hr0] at zr
        have ht := r_int_text true k (by omega)
        rw [← z1] at ht
        simp (disch := (first | omega | (simp only [maxN_eq, List.length_append, List.length_cons, List.length_nil, List.length_set, List.length_replicate, List.length_take, List.length_drop]; omega))) only [hp, hdv, zr, ht, grd_tt, grd_and, grd_dec, grd_ne, cond_dt, cond_df, cond_et, cond_ef, cond_nt, cond_nf, w64, wu64, wu32, wu8, tm, td, bind_some', same_ee, same_er, same_re, same_rr, cond_t, cond_f, Bool.not_true, Bool.not_false]
      · rw [(d2 ⟨rfl, hr0⟩).1]
        have zr := dd_beq_zero r
        rw [decide_eq_false hr0] at zr
        have ht := r_int_text true (k + 1) (by omega)
        rw [← z1] at ht
        have hadd := r_add_eq k 1 (by omega) (by rw [dd_one]; decide)
        rw [dd_one] at hadd
        simp (disch := (first | omega | (simp only [maxN_eq, List.length_append, List.length_cons, List.length_nil, List.length_set, List.length_replicate, List.length_take, List.length_drop]; omega))) only [hp, hdv, zr, hadd, ht, grd_tt, grd_and, grd_dec, grd_ne, cond_dt, cond_df, cond_et, cond_ef, cond_nt, cond_nf, w64, wu64, wu32, wu8, tm, td, bind_some', same_ee, same_er, same_re, same_rr, cond_t, cond_f, Bool.not_true, Bool.not_false]
    · rw [decide_eq_false hneg] at hp d1
      rw [(d1 (by simp)).1]
      have ht := r_int_text false k (by omega)
      rw [Bool.false_and] at ht
      simp (disch := (first | omega | (simp only [maxN_eq, List.length_append, List.length_cons, List.length_nil, List.length_set, List.length_replicate, List.length_take, List.length_drop]; omega))) only [hp, hdv, ht, grd_tt, grd_and, grd_dec, grd_ne, cond_dt, cond_df, cond_et, cond_ef, cond_nt, cond_nf, w64, wu64, wu32, wu8, tm, td, bind_some', same_ee, same_er, same_re, same_rr, cond_t, cond_f, Bool.not_true, Bool.not_false]
  · rw [un_none hr]; simp (disch := (first | omega | (simp only [maxN_eq, List.length_append, List.length_cons, List.length_nil, List.length_set, List.length_replicate, List.length_take, List.length_drop]; omega))) only [hp, grd_tt, grd_and, grd_dec, grd_ne, cond_dt, cond_df, cond_et, cond_ef, cond_nt, cond_nf, w64, wu64, wu32, wu8, tm, td, bind_some', same_ee, same_er, same_re, same_rr, cond_t, cond_f, Bool.not_true, Bool.not_false]
theorem floor_mk (x : Int) (n : Nat) (hn : n ≠ 0) : (mkRat x n).floor = x / (n : Int) := by
  rw [Rat.floor_def, Rat.num_mkRat, Rat.den_mkRat, if_neg hn, if_neg hn]
  have hg : n.gcd x.natAbs ≠ 0 := fun e => hn (Nat.gcd_eq_zero_iff.1 e).1
  obtain ⟨k, hk⟩ : ((n.gcd x.natAbs : Nat) : Int) ∣ x := Int.ofNat_dvd_left.2 (Nat.gcd_dvd_right _ _)
  obtain ⟨l, hl⟩ := Nat.gcd_dvd_left n x.natAbs
  obtain ⟨g, hge⟩ : ∃ g, g = n.gcd x.natAbs := ⟨_, rfl⟩
  rw [← hge] at hg hk hl ⊢
  rw [hk, hl, Int.mul_ediv_cancel_left _ (by omega), Nat.mul_div_cancel_left _ (by omega), Int.natCast_mul, Int.mul_ediv_mul_of_pos _ _ (by omega)]
theorem div_nat_mk (x : Int) (n : Nat) : ((x : Rat) / (((n : Int) : Int) : Rat)) = mkRat x n := by
  rw [Rat.mkRat_eq_div]; rfl
theorem r_quo_eq {a b : List UInt8} (ha : a.length ≤ 100000) (hb : b.length ≤ 100000) : r_Quo a b = some ((sQuo a b, ()), ()) := by
  have h1 := r_isInt_eq (a := a) (by omega)
  have h2 := r_isInt_eq (a := b) (by omega)
  unfold r_Quo sQuo
  cases i1 : isI a with
  | false => rw [i1] at h1; rw [ibin_l i1]; simp (disch := (first | omega | (simp only [maxN_eq, List.length_append, List.length_cons, List.length_nil, List.length_set, List.length_replicate, List.length_take, List.length_drop]; omega))) only [h1, grd_tt, grd_and, grd_dec, grd_ne, cond_dt, cond_df, cond_et, cond_ef, cond_nt, cond_nf, w64, wu64, wu32, wu8, tm, td, bind_some', same_ee, same_er, same_re, same_rr, cond_t, cond_f, Bool.not_true, Bool.not_false]
  | true =>
    rw [i1] at h1
    cases i2 : isI b with
    | false => rw [i2] at h2; rw [ibin_r i2]; simp (disch := (first | omega | (simp only [maxN_eq, List.length_append, List.length_cons, List.length_nil, List.length_set, List.length_replicate, List.length_take, List.length_drop]; omega))) only [h1, h2, grd_tt, grd_and, grd_dec, grd_ne, cond_dt, cond_df, cond_et, cond_ef, cond_nt, cond_nf, w64, wu64, wu32, wu8, tm, td, bind_some', same_ee, same_er, same_re, same_rr, cond_t, cond_f, Bool.not_true, Bool.not_false]
    | true =>
      rw [i2] at h2
      obtain ⟨x, rfl, _⟩ := isI_true i1
      obtain ⟨y, rfl, _⟩ := isI_true i2
      rw [ibin_int]
      by_cases hy : y = 0
      · subst hy
        have hz : txt ((0 : Int) : Rat) = [48] := txt_zero
        rw [if_pos rfl]
        simp (disch := (first | omega | (simp only [maxN_eq, List.length_append, List.length_cons, List.length_nil, List.length_set, List.length_replicate, List.length_take, List.length_drop]; omega))) only [h1, h2, beq_of hz, grd_tt, grd_and, grd_dec, grd_ne, cond_dt, cond_df, cond_et, cond_ef, cond_nt, cond_nf, w64, wu64, wu32, wu8, tm, td, bind_some', same_ee, same_er, same_re, same_rr, cond_t, cond_f, Bool.not_true, Bool.not_false]
      · have hz : txt ((y : Int) : Rat) ≠ [48] := fun e => hy (by have := txt_eq_zero.1 e; simpa using congrArg Rat.num this)
        rw [if_neg hy]
        obtain ⟨a1, a2⟩ := D_intc ha
        obtain ⟨a3, a4⟩ := D_intc hb
        have hab := r_abs_eq (a := txt (y : Rat)) (by omega)
        rw [un_txt, qabs_int] at hab
        have hyl : (txt ((y.natAbs : Int) : Rat)).length ≤ 100000 := by rw [txt_nat]; omega
        have hdv := r_div_eq' (a := txt (x : Rat)) (b := txt ((y.natAbs : Int) : Rat)) (by omega) (by omega)
        have hny : (((y.natAbs : Int) : Int) : Rat) ≠ 0 := fun e => hy (by have := congrArg Rat.num e; simp at this; omega)
        rw [bin_txt, qdiv, if_neg hny, div_nat_mk] at hdv
        have hD := D_mk x y.natAbs (by omega)
        have hl := txt_len (mkRat x y.natAbs)
        have hfl := r_floor_eq (a := txt (mkRat x y.natAbs)) (by omega)
        rw [un_txt, floor_mk _ _ (by omega)] at hfl
        have hsg := r_sign_eq (a := txt (y : Rat)) (by omega)
        have hse : sSign (txt (y : Rat)) = y.sign := by
          unfold sSign; rw [rd_txt]; show ((y : Rat)).num.sign = _; rw [Rat.num_intCast]
        rw [hse] at hsg
        by_cases hneg : y < 0
        · rw [Int.sign_eq_neg_one_of_neg hneg] at hsg
          have hfl2 := D_floor (mkRat x y.natAbs)
          rw [floor_mk _ _ (by omega)] at hfl2
          have hfl3 := txt_len ((x / (y.natAbs : Int) : Int) : Rat)
          have hng := r_neg_eq (a := txt ((x / (y.natAbs : Int) : Int) : Rat)) (by omega)
          rw [un_txt] at hng
          simp (disch := (first | omega | (simp only [maxN_eq, List.length_append, List.length_cons, List.length_nil, List.length_set, List.length_replicate, List.length_take, List.length_drop]; omega))) only [h1, h2, beq_ne hz, hab, hdv, hfl, hsg, hng, grd_tt, grd_and, grd_dec, grd_ne, cond_dt, cond_df, cond_et, cond_ef, cond_nt, cond_nf, w64, wu64, wu32, wu8, tm, td, bind_some', same_ee, same_er, same_re, same_rr, cond_t, cond_f, Bool.not_true, Bool.not_false]
          have e : x / y = -(x / (y.natAbs : Int)) := by
            rw [show (y.natAbs : Int) = -y by omega, Int.ediv_neg, Int.neg_neg]
          rw [e, Rat.intCast_neg]
        · have hsn : ¬ y.sign < 0 := by rw [Int.sign_neg_iff]; exact hneg
          simp (disch := (first | omega | (simp only [maxN_eq, List.length_append, List.length_cons, List.length_nil, List.length_set, List.length_replicate, List.length_take, List.length_drop]; omega))) only [h1, h2, beq_ne hz, hab, hdv, hfl, hsg, grd_tt, grd_and, grd_dec, grd_ne, cond_dt, cond_df, cond_et, cond_ef, cond_nt, cond_nf, w64, wu64, wu32, wu8, tm, td, bind_some', same_ee, same_er, same_re, same_rr, cond_t, cond_f, Bool.not_true, Bool.not_false]
          rw [show (y.natAbs : Int) = y by omega]
theorem quo_len {k : Nat} {a b : List UInt8} (ha : a.length ≤ k) (hb : b.length ≤ k) : (sQuo a b).length ≤ k + 3 := by
  unfold sQuo
  cases i1 : isI a with
  | false => rw [ibin_l i1]; simp
  | true =>
    cases i2 : isI b with
    | false => rw [ibin_r i2]; simp
    | true =>
      obtain ⟨x, rfl, _⟩ := isI_true i1
      obtain ⟨y, rfl, _⟩ := isI_true i2
      rw [ibin_int]
      by_cases hy : y = 0
      · rw [if_pos hy]; simp
      · rw [if_neg hy]
        have hf := D_floor (mkRat x y.natAbs)
        obtain ⟨a1, a2⟩ := D_intc ha
        have h1 : (x / y).natAbs ≤ x.natAbs := by
          have hdm := sg_divmod (decide (x < 0)) (decide (y < 0)) x.natAbs y.natAbs (by omega)
          rw [← sg_of x, ← sg_of y] at hdm
          by_cases hc : decide (x < 0) = true ∧ x.natAbs % y.natAbs ≠ 0
          · rw [(hdm.2 hc).1, sg_natAbs]
            have h2 : x.natAbs / y.natAbs < x.natAbs := by
              have hy1 : y.natAbs ≠ 1 := fun e => hc.2 (by rw [e, Nat.mod_one])
              have hx0 : 0 < x.natAbs := by have := of_decide_eq_true hc.1; omega
              exact Nat.div_lt_self hx0 (by omega)
            omega
          · rw [(hdm.1 hc).1, sg_natAbs]
            exact Nat.div_le_self _ _
        have h2 := dd_len_mono h1
        have h3 := dd_len_int (n := x / y)
        omega
theorem r_rem_eq {a b : List UInt8} (ha : a.length ≤ 10000) (hb : b.length ≤ 10000) : r_Rem a b = some ((sRem a b, ()), ()) := by
  have hq := r_quo_eq (a := a) (b := b) (by omega) (by omega)
  have hql := quo_len (k := 10000) ha hb
  unfold r_Rem
  cases i1 : isI a with
  | false =>
    have e1 : sQuo a b = [] := ibin_l i1
    have e2 : sRem a b = [] := ibin_l i1
    rw [e1] at hq
    rw [e2]
    simp (disch := (first | omega | (simp only [maxN_eq, List.length_append, List.length_cons, List.length_nil, List.length_set, List.length_replicate, List.length_take, List.length_drop]; omega))) only [hq, grd_tt, grd_and, grd_dec, grd_ne, cond_dt, cond_df, cond_et, cond_ef, cond_nt, cond_nf, w64, wu64, wu32, wu8, tm, td, bind_some', same_ee, same_er, same_re, same_rr, cond_t, cond_f, Bool.not_true, Bool.not_false]; rfl
  | true =>
    cases i2 : isI b with
    | false =>
      have e1 : sQuo a b = [] := ibin_r i2
      have e2 : sRem a b = [] := ibin_r i2
      rw [e1] at hq
      rw [e2]
      simp (disch := (first | omega | (simp only [maxN_eq, List.length_append, List.length_cons, List.length_nil, List.length_set, List.length_replicate, List.length_take, List.length_drop]; omega))) only [hq, grd_tt, grd_and, grd_dec, grd_ne, cond_dt, cond_df, cond_et, cond_ef, cond_nt, cond_nf, w64, wu64, wu32, wu8, tm, td, bind_some', same_ee, same_er, same_re, same_rr, cond_t, cond_f, Bool.not_true, Bool.not_false]; rfl
    | true =>
      obtain ⟨x, rfl, _⟩ := isI_true i1
      obtain ⟨y, rfl, _⟩ := isI_true i2
      have e1 : sQuo (txt (x : Rat)) (txt (y : Rat)) = if y = 0 then [] else txt ((x / y : Int) : Rat) := ibin_int _ _ _
      have e2 : sRem (txt (x : Rat)) (txt (y : Rat)) = if y = 0 then [] else txt ((x % y : Int) : Rat) := ibin_int _ _ _
      rw [e1] at hq hql
      rw [e2]
      by_cases hy : y = 0
      · rw [if_pos hy] at hq ⊢
        simp (disch := (first | omega | (simp only [maxN_eq, List.length_append, List.length_cons, List.length_nil, List.length_set, List.length_replicate, List.length_take, List.length_drop]; omega))) only [hq, grd_tt, grd_and, grd_dec, grd_ne, cond_dt, cond_df, cond_et, cond_ef, cond_nt, cond_nf, w64, wu64, wu32, wu8, tm, td, bind_some', same_ee, same_er, same_re, same_rr, cond_t, cond_f, Bool.not_true, Bool.not_false]; rfl
      · rw [if_neg hy] at hq hql ⊢
        have hne : txt ((x / y : Int) : Rat) ≠ [] := fun e => by have := rd_txt ((x / y : Int) : Rat); rw [e, rd_nil] at this; cases this
        have hm := r_mul_eq' (a := txt (y : Rat)) (b := txt ((x / y : Int) : Rat)) (by omega) (by omega)
        rw [bin_txt, ← Rat.intCast_mul] at hm
        have l1 := dd_len_int (n := y * (x / y))
        have l2 := dd_len_mul y.natAbs (x / y).natAbs
        rw [← Int.natAbs_mul] at l2
        obtain ⟨a1, a2⟩ := D_intc hb
        obtain ⟨a3, a4⟩ := D_intc hql
        have hs := r_sub_eq' (a := txt (x : Rat)) (b := txt ((y * (x / y) : Int) : Rat)) (by omega) (by omega)
        rw [bin_txt, ← Rat.intCast_sub] at hs
        simp (disch := (first | omega | (simp only [maxN_eq, List.length_append, List.length_cons, List.length_nil, List.length_set, List.length_replicate, List.length_take, List.length_drop]; omega))) only [hq, beq_ne hne, hm, hs, grd_tt, grd_and, grd_dec, grd_ne, cond_dt, cond_df, cond_et, cond_ef, cond_nt, cond_nf, w64, wu64, wu32, wu8, tm, td, bind_some', same_ee, same_er, same_re, same_rr, cond_t, cond_f, Bool.not_true, Bool.not_false]
        rw [Int.emod_def]
theorem r_gcd_eq' {a b : List UInt8} (ha : a.length ≤ 900000) (hb : b.length ≤ 900000) : r_Gcd a b = some ((sGcd a b, ()), ()) := by
  have h1 := r_isInt_eq (a := a) (by omega)
  have h2 := r_isInt_eq (a := b) (by omega)
  unfold r_Gcd sGcd
  cases i1 : isI a with
  | false => rw [i1] at h1; rw [ibin_l i1]; simp (disch := (first | omega | (simp only [maxN_eq, List.length_append, List.length_cons, List.length_nil, List.length_set, List.length_replicate, List.length_take, List.length_drop]; omega))) only [h1, grd_tt, grd_and, grd_dec, grd_ne, cond_dt, cond_df, cond_et, cond_ef, cond_nt, cond_nf, w64, wu64, wu32, wu8, tm, td, bind_some', same_ee, same_er, same_re, same_rr, cond_t, cond_f, Bool.not_true, Bool.not_false]
  | true =>
    rw [i1] at h1
    cases i2 : isI b with
    | false => rw [i2] at h2; rw [ibin_r i2]; simp (disch := (first | omega | (simp only [maxN_eq, List.length_append, List.length_cons, List.length_nil, List.length_set, List.length_replicate, List.length_take, List.length_drop]; omega))) only [h1, h2, grd_tt, grd_and, grd_dec, grd_ne, cond_dt, cond_df, cond_et, cond_ef, cond_nt, cond_nf, w64, wu64, wu32, wu8, tm, td, bind_some', same_ee, same_er, same_re, same_rr, cond_t, cond_f, Bool.not_true, Bool.not_false]
    | true =>
      rw [i2] at h2
      obtain ⟨x, rfl, _⟩ := isI_true i1
      obtain ⟨y, rfl, _⟩ := isI_true i2
      rw [ibin_int]
      obtain ⟨a1, a2⟩ := D_intc ha
      obtain ⟨a3, a4⟩ := D_intc hb
      have g1 := r_abs_eq (a := txt (x : Rat)) (by omega)
      have g2 := r_abs_eq (a := txt (y : Rat)) (by omega)
      rw [un_txt, qabs_int, txt_nat] at g1 g2
      simp (disch := (first | omega | (simp only [maxN_eq, List.length_append, List.length_cons, List.length_nil, List.length_set, List.length_replicate, List.length_take, List.length_drop]; omega))) only [h1, h2, g1, g2, r_gcd_eq x.natAbs y.natAbs (by omega) (by omega), grd_tt, grd_and, grd_dec, grd_ne, cond_dt, cond_df, cond_et, cond_ef, cond_nt, cond_nf, w64, wu64, wu32, wu8, tm, td, bind_some', same_ee, same_er, same_re, same_rr, cond_t, cond_f, Bool.not_true, Bool.not_false]
theorem r_lcm_eq {a b : List UInt8} (ha : a.length ≤ 100000) (hb : b.length ≤ 100000) : r_Lcm a b = some ((sLcm a b, ()), ()) := by
  have h1 := r_isInt_eq (a := a) (by omega)
  have h2 := r_isInt_eq (a := b) (by omega)
  have hg := r_gcd_eq' (a := a) (b := b) (by omega) (by omega)
  unfold r_Lcm sLcm
  cases i1 : isI a with
  | false => rw [i1] at h1; rw [ibin_l i1]; simp (disch := (first | omega | (simp only [maxN_eq, List.length_append, List.length_cons, List.length_nil, List.length_set, List.length_replicate, List.length_take, List.length_drop]; omega))) only [h1, grd_tt, grd_and, grd_dec, grd_ne, cond_dt, cond_df, cond_et, cond_ef, cond_nt, cond_nf, w64, wu64, wu32, wu8, tm, td, bind_some', same_ee, same_er, same_re, same_rr, cond_t, cond_f, Bool.not_true, Bool.not_false]
  | true =>
    rw [i1] at h1
    cases i2 : isI b with
    | false => rw [i2] at h2; rw [ibin_r i2]; simp (disch := (first | omega | (simp only [maxN_eq, List.length_append, List.length_cons, List.length_nil, List.length_set, List.length_replicate, List.length_take, List.length_drop]; omega))) only [h1, h2, grd_tt, grd_and, grd_dec, grd_ne, cond_dt, cond_df, cond_et, cond_ef, cond_nt, cond_nf, w64, wu64, wu32, wu8, tm, td, bind_some', same_ee, same_er, same_re, same_rr, cond_t, cond_f, Bool.not_true, Bool.not_false]
    | true =>
      rw [i2] at h2
      obtain ⟨x, rfl, _⟩ := isI_true i1
      obtain ⟨y, rfl, _⟩ := isI_true i2
      have eg : sGcd (txt (x : Rat)) (txt (y : Rat)) = dd (Nat.gcd x.natAbs y.natAbs) := ibin_int _ _ _
      rw [eg] at hg
      rw [ibin_int]
      have z1 : txt ((x : Int) : Rat) = [48] ↔ x = 0 := by rw [txt_eq_zero]; constructor; (intro h; simpa using congrArg Rat.num h); (rintro rfl; rfl)
      have z2 : txt ((y : Int) : Rat) = [48] ↔ y = 0 := by rw [txt_eq_zero]; constructor; (intro h; simpa using congrArg Rat.num h); (rintro rfl; rfl)
      by_cases hx : x = 0
      · subst hx
        simp (disch := (first | omega | (simp only [maxN_eq, List.length_append, List.length_cons, List.length_nil, List.length_set, List.length_replicate, List.length_take, List.length_drop]; omega))) only [h1, h2, beq_of (z1.2 rfl), grd_tt, grd_and, grd_dec, grd_ne, cond_dt, cond_df, cond_et, cond_ef, cond_nt, cond_nf, w64, wu64, wu32, wu8, tm, td, bind_some', same_ee, same_er, same_re, same_rr, cond_t, cond_f, Bool.not_true, Bool.not_false]
        simp [dd_zero]
      · have hbx : (txt ((x : Int) : Rat) == [48]) = false := beq_ne (fun h => hx (z1.1 h))
        by_cases hy : y = 0
        · subst hy
          simp (disch := (first | omega | (simp only [maxN_eq, List.length_append, List.length_cons, List.length_nil, List.length_set, List.length_replicate, List.length_take, List.length_drop]; omega))) only [h1, h2, hbx, beq_of (z2.2 rfl), grd_tt, grd_and, grd_dec, grd_ne, cond_dt, cond_df, cond_et, cond_ef, cond_nt, cond_nf, w64, wu64, wu32, wu8, tm, td, bind_some', same_ee, same_er, same_re, same_rr, cond_t, cond_f, Bool.not_true, Bool.not_false]
          simp [dd_zero]
        · have hby : (txt ((y : Int) : Rat) == [48]) = false := beq_ne (fun h => hy (z2.1 h))
          obtain ⟨a1, a2⟩ := D_intc ha
          obtain ⟨a3, a4⟩ := D_intc hb
          have hm := r_mul_eq' (a := txt (x : Rat)) (b := txt (y : Rat)) (by omega) (by omega)
          rw [bin_txt, ← Rat.intCast_mul] at hm
          have l1 := dd_len_int (n := x * y)
          have l2 := dd_len_mul x.natAbs y.natAbs
          rw [← Int.natAbs_mul] at l2
          have hgp : 0 < Nat.gcd x.natAbs y.natAbs := Nat.gcd_pos_of_pos_left _ (by omega)
          have hgl : (dd (Nat.gcd x.natAbs y.natAbs)).length ≤ 100000 := Nat.le_trans (dd_len_mono (Nat.le_of_dvd (by omega) (Nat.gcd_dvd_left _ _))) a2
          have hdv := r_div_eq' (a := txt ((x * y : Int) : Rat)) (b := dd (Nat.gcd x.natAbs y.natAbs)) (by omega) (by omega)
          have hng : (((Nat.gcd x.natAbs y.natAbs : Nat) : Int) : Rat) ≠ 0 := fun e => by have := congrArg Rat.num e; simp at this; omega
          rw [← txt_nat, bin_txt, qdiv, if_neg hng] at hdv
          have hq : (((x * y : Int) : Rat) / (((Nat.gcd x.natAbs y.natAbs : Nat) : Int) : Rat)) = ((x * (y / ((Nat.gcd x.natAbs y.natAbs : Nat) : Int)) : Int) : Rat) := by
            obtain ⟨k, hk⟩ : ((Nat.gcd x.natAbs y.natAbs : Nat) : Int) ∣ y := Int.ofNat_dvd_left.2 (Nat.gcd_dvd_right _ _)
            obtain ⟨g, hge⟩ : ∃ g : Int, g = ((Nat.gcd x.natAbs y.natAbs : Nat) : Int) := ⟨_, rfl⟩
            rw [← hge] at hk hng ⊢
            have hg0 : g ≠ 0 := by omega
            rw [hk, Int.mul_ediv_cancel_left _ hg0, show x * (g * k) = (x * k) * g by grind, Rat.intCast_mul (x * k) g, Rat.mul_div_cancel hng]
          rw [hq] at hdv
          have hab := lcm_abs x y hy
          have l3 : (dd (x * (y / ((Nat.gcd x.natAbs y.natAbs : Nat) : Int))).natAbs).length ≤ (dd x.natAbs).length + (dd y.natAbs).length := by
            rw [Int.natAbs_mul]
            have e1 : (y / ((Nat.gcd x.natAbs y.natAbs : Nat) : Int)).natAbs ≤ y.natAbs := by
              rw [Int.natAbs_ediv_of_dvd (Int.ofNat_dvd_left.2 (Nat.gcd_dvd_right _ _)), Int.natAbs_natCast]
              exact Nat.div_le_self _ _
            have e2 := dd_len_mul x.natAbs (y / ((Nat.gcd x.natAbs y.natAbs : Nat) : Int)).natAbs
            have e3 := dd_len_mono e1
            omega
          have l4 := dd_len_int (n := x * (y / ((Nat.gcd x.natAbs y.natAbs : Nat) : Int)))
          have hfin := r_abs_eq (a := txt ((x * (y / ((Nat.gcd x.natAbs y.natAbs : Nat) : Int)) : Int) : Rat)) (by omega)
          rw [un_txt, qabs_int, txt_nat, hab] at hfin
          rw [txt_nat] at hdv
          simp (disch := (first | omega | (simp only [maxN_eq, List.length_append, List.length_cons, List.length_nil, List.length_set, List.length_replicate, List.length_take, List.length_drop]; omega))) only [h1, h2, hbx, hby, hm, hg, hdv, hfin, grd_tt, grd_and, grd_dec, grd_ne, cond_dt, cond_df, cond_et, cond_ef, cond_nt, cond_nf, w64, wu64, wu32, wu8, tm, td, bind_some', same_ee, same_er, same_re, same_rr, cond_t, cond_f, Bool.not_true, Bool.not_false]
end Go.AM.Num
end
section
set_option linter.unusedSimpArgs false
set_option linter.unusedVariables false
namespace Go.AM.Num

theorem u64_range (x : Int) : 0 ≤ IntKind.u64.wrap x ∧ IntKind.u64.wrap x ≤ 18446744073709551615 := by
  simp [IntKind.wrap, IntKind.bits, IntKind.signed]; omega

/-! ### The reference's text of a whole number -/
theorem tdm (v : Int) : (v.tmod 10 = if v < 0 then -((v.natAbs % 10 : Nat) : Int) else ((v.natAbs % 10 : Nat) : Int)) ∧ (v.tdiv 10 = if v < 0 then -((v.natAbs / 10 : Nat) : Int) else ((v.natAbs / 10 : Nat) : Int)) := by
  by_cases h : v < 0
  · obtain ⟨u, hu⟩ : ∃ u : Nat, v = -(u : Int) := ⟨v.natAbs, by omega⟩
    rw [if_pos h, if_pos h, hu, Int.neg_tmod, Int.neg_tdiv, tm (by omega), td (by omega)]
    constructor <;> omega
  · rw [if_neg h, if_neg h, tm (by omega), td (by omega)]
    constructor <;> omega
theorem fi_step (n v : Int) (s : List UInt8) (hv : -9223372036854775808 ≤ v ∧ v ≤ 9223372036854775807) (hs : s.length ≤ 1000) (h : v ≠ 0 ∨ s = []) :
    r_FromInt_s3 (n, s, v, ()) = some (.normal, (n, UInt8.ofNat (48 + v.natAbs % 10) :: s, v.tdiv 10, ())) := by
  obtain ⟨h1, h2⟩ := tdm v
  have e3 : IntKind.i64.wrap (v.tdiv 10) = v.tdiv 10 := w64 (by rw [h2]; split <;> omega)
  have e1 : v.tmod 10 < 0 → IntKind.u8.wrap (IntKind.i64.wrap ((48 : Int) + IntKind.i64.wrap (0 - v.tmod 10))) = ((48 + v.natAbs % 10 : Nat) : Int) := by
    intro hn
    rw [h1] at hn ⊢
    split at hn
    · rename_i hv0
      rw [if_pos hv0, show (0 : Int) - -((v.natAbs % 10 : Nat) : Int) = ((v.natAbs % 10 : Nat) : Int) by omega, w64 (x := ((v.natAbs % 10 : Nat) : Int)) (by omega), w64 (by omega), wu8 (by omega)]; omega
    · omega
  have e2 : ¬ v.tmod 10 < 0 → IntKind.u8.wrap (IntKind.i64.wrap ((48 : Int) + v.tmod 10)) = ((48 + v.natAbs % 10 : Nat) : Int) := by
    intro hn
    rw [h1] at hn ⊢
    split at hn
    · rename_i hv0
      rw [if_pos hv0, w64 (by omega), wu8 (by omega)]; omega
    · rename_i hv0
      rw [if_neg hv0, w64 (by omega), wu8 (by omega)]; omega
  have e4 : ([((48 + v.natAbs % 10 : Nat) : Int)] : List Int).map (fun n => UInt8.ofNat n.toNat) = [UInt8.ofNat (48 + v.natAbs % 10)] := rfl
  have e5 : ([UInt8.ofNat (48 + v.natAbs % 10)] : List UInt8).length + s.length ≤ maxS := by rw [maxS_eq]; simp; omega
  simp only [r_FromInt_s3]
  by_cases h0 : v = 0
  · rcases h with h | h
    · exact absurd h0 h
    · rw [cond_nf h0, beq_of h, cond_t, grd_ne (by decide)]
      by_cases hn : v.tmod 10 < 0
      · rw [cond_dt hn, e1 hn, e4, grd_dec e5, grd_ne (by decide), e3]; rfl
      · rw [cond_df hn, e2 hn, e4, grd_dec e5, grd_ne (by decide), e3]; rfl
  · rw [cond_nt h0, grd_ne (by decide)]
    by_cases hn : v.tmod 10 < 0
    · rw [cond_dt hn, e1 hn, e4, grd_dec e5, grd_ne (by decide), e3]; rfl
    · rw [cond_df hn, e2 hn, e4, grd_dec e5, grd_ne (by decide), e3]; rfl
theorem dd_app (v : Nat) (s : List UInt8) (h : v / 10 ≠ 0) : dd (v / 10) ++ UInt8.ofNat (48 + v % 10) :: s = dd v ++ s := by
  rw [dd_big (n := v) (by omega)]; simp
theorem r_fromInt_eq {n : Int} (h : in64 n) : r_FromInt n = some ((txt (n : Rat), ()), ()) := by
  have hn : -9223372036854775808 ≤ n ∧ n ≤ 9223372036854775807 := h
  have hl : (dd n.natAbs).length ≤ 20 := dd_lt_len (by have : n.natAbs ≤ 9223372036854775808 := by omega
                                                       omega) (by decide)
  obtain ⟨r, hr, v, rfl⟩ := loopO_ind (step := r_FromInt_s3) (Q := fun r => ∃ v, r = (Ex.exit 0, (n, dd n.natAbs, v, ())))
    (fun k x => ∃ v s, x = (n, s, v, ()) ∧ (-9223372036854775808 ≤ v ∧ v ≤ 9223372036854775807) ∧ ((s = [] ∧ v = n ∧ k = n.natAbs + 1) ∨ (s ≠ [] ∧ k = v.natAbs ∧ (if v = 0 then s else dd v.natAbs ++ s) = dd n.natAbs))) (by
      rintro k x ⟨v, s, rfl, hv, hI⟩
      obtain ⟨h1, h2⟩ := tdm v
      by_cases hgo : v ≠ 0 ∨ s = []
      · have hs : s.length ≤ 1000 := by
          rcases hI with ⟨rfl, _⟩ | ⟨_, _, hc⟩
          · simp
          · have := congrArg List.length hc
            split at this <;> (try rw [List.length_append] at this) <;> omega
        refine .inr ⟨v.natAbs / 10, _, fi_step n v s hv hs hgo, ?_, v.tdiv 10, _, rfl, ?_, .inr ⟨by simp, ?_, ?_⟩⟩
        · rcases hI with ⟨_, e, rfl⟩ | ⟨hne, rfl, _⟩
          · rw [e]; omega
          · rcases hgo with hgo | hgo
            · omega
            · exact absurd hgo hne
        · rw [h2]; split <;> omega
        · rw [h2]; split <;> omega
        · have hz : (v.tdiv 10 = 0) ↔ v.natAbs / 10 = 0 := by rw [h2]; split <;> omega
          have ha : (v.tdiv 10).natAbs = v.natAbs / 10 := by rw [h2]; split <;> omega
          have key : (if v.tdiv 10 = 0 then UInt8.ofNat (48 + v.natAbs % 10) :: s else dd (v.tdiv 10).natAbs ++ UInt8.ofNat (48 + v.natAbs % 10) :: s) = dd v.natAbs ++ s := by
            by_cases hq : v.natAbs / 10 = 0
            · rw [if_pos (hz.2 hq), dd_small (n := v.natAbs) (by omega), show v.natAbs % 10 = v.natAbs by omega]; rfl
            · rw [if_neg (fun e => hq (hz.1 e)), ha, dd_app _ _ hq]
          rw [key]
          rcases hI with ⟨rfl, rfl, _⟩ | ⟨hne, _, hc⟩
          · simp
          · rcases hgo with hgo | hgo
            · rw [if_neg hgo] at hc; exact hc
            · exact absurd hgo hne
      · have hv0 : v = 0 := Classical.byContradiction fun e => hgo (.inl e)
        have hs0 : s ≠ [] := fun e => hgo (.inr e)
        rcases hI with ⟨e, _⟩ | ⟨_, _, hc⟩
        · exact absurd e hs0
        · rw [if_pos hv0] at hc
          subst hv0
          refine .inl ⟨_, ?_, ?_, 0, rfl⟩
          · simp only [r_FromInt_s3]
            rw [cond_nf rfl, beq_ne hs0, cond_f, hc]
          · simp) _ (n, [], n, ()) ⟨n, [], rfl, hn, .inl ⟨rfl, rfl, rfl⟩⟩
  unfold r_FromInt
  rw [hr, bind_some']
  simp only
  rw [same_ee, cond_t, txt_int]
  by_cases h0 : n < 0
  · rw [cond_dt h0, if_pos h0, grd_dec (by rw [maxS_eq]; simp; omega)]
  · rw [cond_df h0, if_neg h0]; rfl

/-! ### Choices -/
theorem g_mod_eq (v : Int) {n : Int} (h : 0 < n ∧ n ≤ 9223372036854775807) : ∃ r, g_Mod v n = some ((r, ()), ()) ∧ 0 ≤ r ∧ r < n := by
  have hu := u64_range v
  unfold g_Mod
  rw [wu64 (x := n) (by omega), grd_ne (by omega), tm hu.1]
  have h1 := Int.emod_nonneg (IntKind.u64.wrap v) (show n ≠ 0 by omega)
  have h2 := Int.emod_lt_of_pos (IntKind.u64.wrap v) h.1
  exact ⟨_, by rw [w64 (by omega)], h1, h2⟩
/-- A choice's state: how many are taken. -/
def CI (c : List Int × Int) : Prop := 0 ≤ c.2 ∧ c.2 ≤ c.1.length ∧ c.1.length ≤ 400
theorem g_new_eq (l : List Int) : ∃ c, g_New l = some ((c, ()), ()) ∧ CI c := by
  unfold g_New
  have h : minA (l.length : Int) 400 = ((min l.length 400 : Nat) : Int) := by rw [minA_def]; split <;> omega
  rw [h, grd_and, grd_dec (by omega), grd_dec (by omega)]
  exact ⟨_, rfl, by refine ⟨by simp, by simp, ?_⟩; simp; omega⟩
theorem g_next_eq {c : List Int × Int} (hc : CI c) {n : Int} (h : 0 < n ∧ n ≤ 9223372036854775807) : ∃ r c', g_Choices_Next c n = some ((r, ()), (c', ())) ∧ CI c' ∧ 0 ≤ r ∧ r < n := by
  obtain ⟨h1, h2, h3⟩ := hc
  unfold g_Choices_Next
  by_cases hd : c.2 ≥ (c.1.length : Int)
  · rw [cond_dt hd]; exact ⟨_, _, rfl, ⟨h1, h2, h3⟩, by omega, by omega⟩
  · have hw : IntKind.i64.wrap (c.2 + 1) = c.2 + 1 := w64 (by omega)
    have hw2 : IntKind.i64.wrap (c.2 + 1 - 1) = c.2 := by rw [w64 (by omega)]; omega
    rw [cond_df hd, hw, hw2, grd_and, grd_dec h1, grd_dec (by omega)]
    obtain ⟨r, hr, r1, r2⟩ := g_mod_eq (c.1.getD c.2.toNat 0) h
    rw [hr, bind_some']
    exact ⟨r, (c.1, c.2 + 1), rfl, ⟨by simp only; omega, by simp only; omega, h3⟩, r1, r2⟩
theorem D_small {n : Int} (h : n.natAbs < 100000000000000000000) : D (n : Rat) ≤ 21 := by
  rw [D_int]; have := dd_lt_len (n := n.natAbs) (k := 20) (by omega) (by decide); omega
theorem g_integer_eq {c : List Int × Int} (hc : CI c) : ∃ (z : Int) (c' : List Int × Int), g_Choices_Integer c = some ((txt (z : Rat), ()), (c', ())) ∧ CI c' ∧ D (z : Rat) ≤ 50 := by
  unfold g_Choices_Integer
  obtain ⟨r1, c1, e1, hc1, a1, b1⟩ := g_next_eq hc (n := 8) (by omega)
  have e1' : g_Choices_Next (c.1, c.2) 8 = some ((r1, ()), (c1, ())) := e1
  rw [e1', bind_some']
  simp only
  by_cases h6 : r1 = 6
  · rw [cond_et h6]
    obtain ⟨r2, c2, e2, hc2, a2, b2⟩ := g_next_eq hc1 (n := 2001) (by omega)
    have e2' : g_Choices_Next (c1.1, c1.2) 2001 = some ((r2, ()), (c2, ())) := e2
    rw [e2', bind_some']
    simp only
    rw [w64 (by omega), r_fromInt_eq (show in64 _ from ⟨by omega, by omega⟩), bind_some']
    exact ⟨_, _, rfl, hc2, Nat.le_trans (D_small (by omega)) (by omega)⟩
  · rw [cond_ef h6]
    by_cases h7 : r1 = 7
    · rw [cond_et h7]
      obtain ⟨r2, c2, e2, hc2, a2, b2⟩ := g_next_eq hc1 (n := 1099511627776) (by omega)
      have e2' : g_Choices_Next (c1.1, c1.2) 1099511627776 = some ((r2, ()), (c2, ())) := e2
      rw [e2', bind_some']
      simp only
      rw [w64 (by omega), r_fromInt_eq (show in64 _ from ⟨by omega, by omega⟩), bind_some']
      obtain ⟨r3, c3, e3, hc3, a3, b3⟩ := g_next_eq hc2 (n := 1099511627776) (by omega)
      have e3' : g_Choices_Next (c2.1, c2.2) 1099511627776 = some ((r3, ()), (c3, ())) := e3
      rw [e3', bind_some']
      simp only
      rw [r_fromInt_eq (show in64 _ from ⟨by omega, by omega⟩), bind_some']
      simp only
      have d1 := D_small (n := r2 - 549755813888) (by omega)
      have d2 := D_small (n := r3) (by omega)
      have l1 := txt_len ((r2 - 549755813888 : Int) : Rat)
      have l2 := txt_len ((r3 : Int) : Rat)
      rw [r_mul_eq' (by omega) (by omega), bin_txt, bind_some']
      have d3 := D_mul ((r2 - 549755813888 : Int) : Rat) ((r3 : Int) : Rat)
      rw [← Rat.intCast_mul] at d3 ⊢
      exact ⟨_, _, rfl, hc3, by omega⟩
    · rw [cond_ef h7]
      obtain ⟨r2, c2, e2, hc2, a2, b2⟩ := g_next_eq hc1 (n := 9) (by omega)
      have e2' : g_Choices_Next (c1.1, c1.2) 9 = some ((r2, ()), (c2, ())) := e2
      rw [e2', bind_some']
      simp only
      rw [w64 (by omega), r_fromInt_eq (show in64 _ from ⟨by omega, by omega⟩), bind_some']
      exact ⟨_, _, rfl, hc2, Nat.le_trans (D_small (by omega)) (by omega)⟩
theorem D_div (p q : Rat) : D (p / q) ≤ D p + D q := by
  rw [Rat.div_def]; have := D_mul p q⁻¹; have := D_inv q; omega
theorem g_number_eq {c : List Int × Int} (hc : CI c) : ∃ (q : Rat) (c' : List Int × Int), g_Choices_Number c = some ((txt q, ()), (c', ())) ∧ CI c' ∧ D q ≤ 71 := by
  unfold g_Choices_Number
  obtain ⟨z, c1, e1, hc1, d1⟩ := g_integer_eq hc
  have e1' : g_Choices_Integer (c.1, c.2) = some ((txt (z : Rat), ()), (c1, ())) := e1
  rw [e1', bind_some']
  simp only
  obtain ⟨r2, c2, e2, hc2, a2, b2⟩ := g_next_eq hc1 (n := 4) (by omega)
  have e2' : g_Choices_Next (c1.1, c1.2) 4 = some ((r2, ()), (c2, ())) := e2
  rw [e2', bind_some']
  simp only
  rw [w64 (by omega), r_fromInt_eq (show in64 _ from ⟨by omega, by omega⟩), bind_some']
  simp only
  have d2 := D_small (n := 1 + r2) (by omega)
  have l1 := txt_len (z : Rat)
  have l2 := txt_len ((1 + r2 : Int) : Rat)
  rw [r_div_eq' (by omega) (by omega), bin_txt, bind_some']
  have hne : ((1 + r2 : Int) : Rat) ≠ 0 := fun e => by have := congrArg Rat.num e; rw [Rat.num_intCast] at this; simp at this; omega
  rw [qdiv, if_neg hne]
  exact ⟨_, _, rfl, hc2, Nat.le_trans (D_div _ _) (by omega)⟩

/-! ### The picks -/
theorem short_eq {l : List (List UInt8)} (hl : l.length ≤ 9223372036854775807) : l_short l = some ((decide (∀ s ∈ l, s.length ≤ 50), ()), ()) := by
  obtain ⟨r, hr, hq⟩ := loopO_ind (step := l_short_s2) (Q := fun r => (∃ i, r = (Ex.exit 0, (l, false, i, ())) ∧ ∀ s ∈ l, s.length ≤ 50) ∨ (∃ i, r = (Ex.ret, (l, false, i, ())) ∧ ¬ ∀ s ∈ l, s.length ≤ 50))
    (fun m x => ∃ k : Nat, m + k = l.length ∧ x = (l, false, (k : Int), ()) ∧ ∀ s ∈ l.take k, s.length ≤ 50) (by
      rintro m x ⟨k, hm, rfl, hk⟩
      by_cases h : k < l.length
      · have e : (k : Int).toNat = k := by omega
        have hg : l.getD k [] = l[k] := by simp [h]
        by_cases hs : l[k].length ≤ 50
        · refine .inr ⟨m - 1, _, ?_, by omega, k + 1, by omega, rfl, ?_⟩
          · simp (disch := (first | omega | (simp only [maxN_eq, List.length_append, List.length_cons, List.length_nil, List.length_set, List.length_replicate, List.length_take, List.length_drop]; omega))) only [l_short_s2, e, hg, grd_tt, grd_and, grd_dec, grd_ne, cond_dt, cond_df, cond_et, cond_ef, cond_nt, cond_nf, w64, wu64, wu32, wu8, tm, td, bind_some', same_ee, same_er, same_re, same_rr, cond_t, cond_f, Bool.not_true, Bool.not_false]
            rfl
          · rw [List.take_succ_eq_append_getElem h]
            intro s hs'
            rcases List.mem_append.1 hs' with h' | h'
            · exact hk s h'
            · rw [List.mem_singleton.1 h']; exact hs
        · refine .inl ⟨(Ex.ret, (l, false, (k : Int), ())), ?_, ?_, .inr ⟨(k : Int), rfl, fun hh => hs (hh l[k] (List.getElem_mem h))⟩⟩
          · simp (disch := (first | omega | (simp only [maxN_eq, List.length_append, List.length_cons, List.length_nil, List.length_set, List.length_replicate, List.length_take, List.length_drop]; omega))) only [l_short_s2, e, hg, grd_tt, grd_and, grd_dec, grd_ne, cond_dt, cond_df, cond_et, cond_ef, cond_nt, cond_nf, w64, wu64, wu32, wu8, tm, td, bind_some', same_ee, same_er, same_re, same_rr, cond_t, cond_f, Bool.not_true, Bool.not_false]
          · simp
      · refine .inl ⟨(Ex.exit 0, (l, false, (k : Int), ())), ?_, ?_, .inl ⟨(k : Int), rfl, ?_⟩⟩
        · simp (disch := (first | omega | (simp only [maxN_eq, List.length_append, List.length_cons, List.length_nil, List.length_set, List.length_replicate, List.length_take, List.length_drop]; omega))) only [l_short_s2, grd_tt, grd_and, grd_dec, grd_ne, cond_dt, cond_df, cond_et, cond_ef, cond_nt, cond_nf, w64, wu64, wu32, wu8, tm, td, bind_some', same_ee, same_er, same_re, same_rr, cond_t, cond_f, Bool.not_true, Bool.not_false]
        · simp
        · rw [List.take_of_length_le (by omega)] at hk; exact hk) l.length _ ⟨0, by omega, rfl, by simp⟩
  have hr' : loopO l_short_s2 (l, false, 0, ()) = some r := hr
  unfold l_short
  rcases hq with ⟨i, rfl, h⟩ | ⟨i, rfl, h⟩
  · rw [hr', bind_some', decide_eq_true h]; simp (disch := (first | omega | (simp only [maxN_eq, List.length_append, List.length_cons, List.length_nil, List.length_set, List.length_replicate, List.length_take, List.length_drop]; omega))) only [grd_tt, grd_and, grd_dec, grd_ne, cond_dt, cond_df, cond_et, cond_ef, cond_nt, cond_nf, w64, wu64, wu32, wu8, tm, td, bind_some', same_ee, same_er, same_re, same_rr, cond_t, cond_f, Bool.not_true, Bool.not_false]
  · rw [hr', bind_some', decide_eq_false h]; simp (disch := (first | omega | (simp only [maxN_eq, List.length_append, List.length_cons, List.length_nil, List.length_set, List.length_replicate, List.length_take, List.length_drop]; omega))) only [grd_tt, grd_and, grd_dec, grd_ne, cond_dt, cond_df, cond_et, cond_ef, cond_nt, cond_nf, w64, wu64, wu32, wu8, tm, td, bind_some', same_ee, same_er, same_re, same_rr, cond_t, cond_f, Bool.not_true, Bool.not_false]
theorem short1 (s : List UInt8) : l_short [s] = some ((decide (s.length ≤ 50), ()), ()) := by
  rw [short_eq (by simp)]; simp
theorem pick_eq (s : List UInt8) (l : List Int) : ∃ q, l_pick s l = some ((txt q, ()), ()) ∧ D q ≤ 71 := by
  obtain ⟨c, ec, hc⟩ := g_new_eq l
  obtain ⟨q, c', eq, _, hD⟩ := g_number_eq hc
  have eq' : g_Choices_Number (c.1, c.2) = some ((txt q, ()), (c', ())) := eq
  unfold l_pick
  rw [short1]
  by_cases hs : s.length ≤ 50
  · have hv := r_valid_eq (a := s) (by omega)
    cases hr : rd s with
    | none => rw [hr] at hv; refine ⟨q, ?_, hD⟩; simp (disch := (first | omega | (simp only [maxN_eq, List.length_append, List.length_cons, List.length_nil, List.length_set, List.length_replicate, List.length_take, List.length_drop]; omega))) only [hv, ec, eq', Option.isSome_none, grd_tt, grd_and, grd_dec, grd_ne, cond_dt, cond_df, cond_et, cond_ef, cond_nt, cond_nf, w64, wu64, wu32, wu8, tm, td, bind_some', same_ee, same_er, same_re, same_rr, cond_t, cond_f, Bool.not_true, Bool.not_false]
    | some p =>
      rw [hr] at hv
      have e := rd_some hr
      refine ⟨p, ?_, ?_⟩
      · rw [← e]; simp (disch := (first | omega | (simp only [maxN_eq, List.length_append, List.length_cons, List.length_nil, List.length_set, List.length_replicate, List.length_take, List.length_drop]; omega))) only [hv, Option.isSome_some, grd_tt, grd_and, grd_dec, grd_ne, cond_dt, cond_df, cond_et, cond_ef, cond_nt, cond_nf, w64, wu64, wu32, wu8, tm, td, bind_some', same_ee, same_er, same_re, same_rr, cond_t, cond_f, Bool.not_true, Bool.not_false]
      · have := D_of_len (q := p) (n := 50) (by rw [← e]; exact hs); omega
  · refine ⟨q, ?_, hD⟩; simp (disch := (first | omega | (simp only [maxN_eq, List.length_append, List.length_cons, List.length_nil, List.length_set, List.length_replicate, List.length_take, List.length_drop]; omega))) only [ec, eq', grd_tt, grd_and, grd_dec, grd_ne, cond_dt, cond_df, cond_et, cond_ef, cond_nt, cond_nf, w64, wu64, wu32, wu8, tm, td, bind_some', same_ee, same_er, same_re, same_rr, cond_t, cond_f, Bool.not_true, Bool.not_false]
theorem whole_eq (s : List UInt8) (l : List Int) : ∃ z : Int, l_whole s l = some ((txt (z : Rat), ()), ()) ∧ D (z : Rat) ≤ 71 := by
  obtain ⟨c, ec, hc⟩ := g_new_eq l
  obtain ⟨q, c', eq, _, hD⟩ := g_integer_eq hc
  have eq' : g_Choices_Integer (c.1, c.2) = some ((txt (q : Rat), ()), (c', ())) := eq
  unfold l_whole
  rw [short1]
  by_cases hs : s.length ≤ 50
  · have hv := r_isInt_eq (a := s) (by omega)
    cases hr : isI s with
    | false => rw [hr] at hv; refine ⟨q, ?_, by omega⟩; simp (disch := (first | omega | (simp only [maxN_eq, List.length_append, List.length_cons, List.length_nil, List.length_set, List.length_replicate, List.length_take, List.length_drop]; omega))) only [hv, ec, eq', grd_tt, grd_and, grd_dec, grd_ne, cond_dt, cond_df, cond_et, cond_ef, cond_nt, cond_nf, w64, wu64, wu32, wu8, tm, td, bind_some', same_ee, same_er, same_re, same_rr, cond_t, cond_f, Bool.not_true, Bool.not_false]
    | true =>
      rw [hr] at hv
      obtain ⟨n, e, _⟩ := isI_true hr
      refine ⟨n, ?_, ?_⟩
      · rw [← e]; simp (disch := (first | omega | (simp only [maxN_eq, List.length_append, List.length_cons, List.length_nil, List.length_set, List.length_replicate, List.length_take, List.length_drop]; omega))) only [hv, grd_tt, grd_and, grd_dec, grd_ne, cond_dt, cond_df, cond_et, cond_ef, cond_nt, cond_nf, w64, wu64, wu32, wu8, tm, td, bind_some', same_ee, same_er, same_re, same_rr, cond_t, cond_f, Bool.not_true, Bool.not_false]
      · have := D_of_len (q := (n : Rat)) (n := 50) (by rw [← e]; exact hs); omega
  · refine ⟨q, ?_, by omega⟩; simp (disch := (first | omega | (simp only [maxN_eq, List.length_append, List.length_cons, List.length_nil, List.length_set, List.length_replicate, List.length_take, List.length_drop]; omega))) only [ec, eq', grd_tt, grd_and, grd_dec, grd_ne, cond_dt, cond_df, cond_et, cond_ef, cond_nt, cond_nf, w64, wu64, wu32, wu8, tm, td, bind_some', same_ee, same_er, same_re, same_rr, cond_t, cond_f, Bool.not_true, Bool.not_false]
end Go.AM.Num
end
section
set_option linter.unusedSimpArgs false
set_option linter.unusedVariables false
namespace Go.AM.Num

/-! ### On canonical forms -/
theorem Add_t {p q : Rat} (hp : D p ≤ 1000000) (hq : D q ≤ 1000000) : n_Add (txt p) (txt q) = some ((txt (p + q), ()), ()) := by
  have := txt_len p; have := txt_len q; rw [Add_eq (by omega) (by omega), bin_txt]
theorem Sub_t {p q : Rat} (hp : D p ≤ 1000000) (hq : D q ≤ 1000000) : n_Sub (txt p) (txt q) = some ((txt (p - q), ()), ()) := by
  have := txt_len p; have := txt_len q; rw [sub_eq' (by omega) (by omega), bin_txt]
theorem Mul_t {p q : Rat} (hp : D p ≤ 1000000) (hq : D q ≤ 1000000) : n_Mul (txt p) (txt q) = some ((txt (p * q), ()), ()) := by
  have := txt_len p; have := txt_len q; rw [Mul_eq (by omega) (by omega), bin_txt]
theorem Div_t {p q : Rat} (hz : q ≠ 0) (hp : D p ≤ 1000000) (hq : D q ≤ 1000000) : n_Div (txt p) (txt q) = some ((txt (p / q), ()), ()) := by
  have := txt_len p; have := txt_len q; rw [Div_eq (by omega) (by omega), bin_txt, qdiv, if_neg hz]
theorem Cmp_t {p q : Rat} (hp : D p ≤ 1000000) (hq : D q ≤ 1000000) : n_Cmp (txt p) (txt q) = some (((p - q).num.sign, ()), ()) := by
  have := txt_len p; have := txt_len q; rw [cmp_eq' (by omega) (by omega), sCmp, rd_txt, rd_txt]
theorem Sign_t {p : Rat} (hp : D p ≤ 1000000) : n_Sign (txt p) = some ((p.num.sign, ()), ()) := by
  have := txt_len p; rw [sign_eq (by omega), sSign, rd_txt]
theorem Neg_t {p : Rat} (hp : D p ≤ 1000000) : n_Neg (txt p) = some ((txt (-p), ()), ()) := by
  have := txt_len p; rw [neg_eq (by omega), un_txt]
theorem Abs_t {p : Rat} (hp : D p ≤ 1000000) : n_Abs (txt p) = some ((txt (qabs p), ()), ()) := by
  have := txt_len p; rw [abs_eq (by omega), un_txt]
theorem Num_t {p : Rat} (hp : D p ≤ 1000000) : n_Num (txt p) = some ((txt ((p.num : Int) : Rat), ()), ()) := by
  have := txt_len p; rw [num_eq (by omega), un_txt]
theorem Den_t {p : Rat} (hp : D p ≤ 1000000) : n_Den (txt p) = some ((txt (((p.den : Nat) : Int) : Rat), ()), ()) := by
  have := txt_len p; rw [den_eq (by omega), un_txt, txt_nat]
theorem Floor_t {p : Rat} (hp : D p ≤ 900000) : n_Floor (txt p) = some ((txt ((p.floor : Int) : Rat), ()), ()) := by
  have := txt_len p; rw [floor_eq (by omega), un_txt]
theorem Ceil_t {p : Rat} (hp : D p ≤ 900000) : n_Ceil (txt p) = some ((txt ((p.ceil : Int) : Rat), ()), ()) := by
  have := txt_len p; rw [ceil_eq (by omega), un_txt]
theorem IsInt_t {p : Rat} (hp : D p ≤ 1000000) : n_IsInt (txt p) = some ((p.den == 1, ()), ()) := by
  have := txt_len p; rw [isInt_eq (by omega), isI_txt]
theorem Quo_t {x y : Int} (hz : y ≠ 0) (hp : D (x : Rat) ≤ 900000) (hq : D (y : Rat) ≤ 900000) : n_Quo (txt (x : Rat)) (txt (y : Rat)) = some ((txt ((x / y : Int) : Rat), ()), ()) := by
  have := txt_len (x : Rat); have := txt_len (y : Rat); rw [quo_eq (by omega) (by omega), sQuo, ibin_int, if_neg hz]
theorem Rem_t {x y : Int} (hz : y ≠ 0) (hp : D (x : Rat) ≤ 900000) (hq : D (y : Rat) ≤ 900000) : n_Rem (txt (x : Rat)) (txt (y : Rat)) = some ((txt ((x % y : Int) : Rat), ()), ()) := by
  have := txt_len (x : Rat); have := txt_len (y : Rat); rw [rem_eq (by omega) (by omega), sRem, ibin_int, if_neg hz]
theorem Quo_z {x y : Int} (hz : y = 0) (hp : D (x : Rat) ≤ 900000) (hq : D (y : Rat) ≤ 900000) : n_Quo (txt (x : Rat)) (txt (y : Rat)) = some (([], ()), ()) := by
  have := txt_len (x : Rat); have := txt_len (y : Rat); rw [quo_eq (by omega) (by omega), sQuo, ibin_int, if_pos hz]
theorem Rem_z {x y : Int} (hz : y = 0) (hp : D (x : Rat) ≤ 900000) (hq : D (y : Rat) ≤ 900000) : n_Rem (txt (x : Rat)) (txt (y : Rat)) = some (([], ()), ()) := by
  have := txt_len (x : Rat); have := txt_len (y : Rat); rw [rem_eq (by omega) (by omega), sRem, ibin_int, if_pos hz]
theorem Gcd_t {x y : Int} (hp : D (x : Rat) ≤ 900000) (hq : D (y : Rat) ≤ 900000) : n_Gcd (txt (x : Rat)) (txt (y : Rat)) = some ((txt (((Nat.gcd x.natAbs y.natAbs : Nat) : Int) : Rat), ()), ()) := by
  have := txt_len (x : Rat); have := txt_len (y : Rat); rw [gcd_eq' (by omega) (by omega), sGcd, ibin_int, txt_nat]
theorem Lcm_t {x y : Int} (hp : D (x : Rat) ≤ 900000) (hq : D (y : Rat) ≤ 900000) : n_Lcm (txt (x : Rat)) (txt (y : Rat)) = some ((txt (((Nat.lcm x.natAbs y.natAbs : Nat) : Int) : Rat), ()), ()) := by
  have := txt_len (x : Rat); have := txt_len (y : Rat); rw [lcm_eq (by omega) (by omega), sLcm, ibin_int, txt_nat]
theorem MulI_t {x y : Int} (hp : D (x : Rat) ≤ 1000000) (hq : D (y : Rat) ≤ 1000000) : n_Mul (txt (x : Rat)) (txt (y : Rat)) = some ((txt ((x * y : Int) : Rat), ()), ()) := by
  rw [Mul_t hp hq, Rat.intCast_mul]
theorem AddI_t {x y : Int} (hp : D (x : Rat) ≤ 1000000) (hq : D (y : Rat) ≤ 1000000) : n_Add (txt (x : Rat)) (txt (y : Rat)) = some ((txt ((x + y : Int) : Rat), ()), ()) := by
  rw [Add_t hp hq, Rat.intCast_add]
theorem AbsI_t {x : Int} (hp : D (x : Rat) ≤ 1000000) : n_Abs (txt (x : Rat)) = some ((txt (((x.natAbs : Nat) : Int) : Rat), ()), ()) := by
  rw [Abs_t hp, qabs_int]
theorem SignI_t {x : Int} (hp : D (x : Rat) ≤ 1000000) : n_Sign (txt (x : Rat)) = some ((x.sign, ()), ()) := by
  rw [Sign_t hp, Rat.num_intCast]
theorem CmpI_t {x y : Int} (hp : D (x : Rat) ≤ 1000000) (hq : D (y : Rat) ≤ 1000000) : n_Cmp (txt (x : Rat)) (txt (y : Rat)) = some (((x - y).sign, ()), ()) := by
  rw [Cmp_t hp hq, ← Rat.intCast_sub, Rat.num_intCast]
theorem txt_beq (p q : Rat) : (txt p == txt q) = decide (p = q) := by
  by_cases h : p = q
  · rw [decide_eq_true h, h]; exact beq_of rfl
  · rw [decide_eq_false h]; exact beq_ne fun e => h (txt_inj e)
theorem txt_beqI (x y : Int) : (txt (x : Rat) == txt (y : Rat)) = decide (x = y) := by
  rw [txt_beq]
  exact decide_eq_decide.2 ⟨fun h => by have := congrArg Rat.num h; rw [Rat.num_intCast, Rat.num_intCast] at this; exact this, fun h => by rw [h]⟩
theorem t0 : ([48] : List UInt8) = txt ((0 : Int) : Rat) := txt_zero.symm
theorem t1 : ([49] : List UInt8) = txt ((1 : Int) : Rat) := by rw [txt_int]; simp [dd_one]
theorem D_zero : D ((0 : Int) : Rat) ≤ 21 := D_small (by decide)
theorem D_one : D ((1 : Int) : Rat) ≤ 21 := D_small (by decide)
theorem D_sub (p q : Rat) : D (p - q) ≤ 2 * (D p + D q) + 1 := by rw [Rat.sub_eq_add_neg]; have := D_add p (-q); rw [D_neg] at this; exact this

/-! ### awake -/
theorem tx_12 : ([49, 47, 50] : List UInt8) = txt (mkRat 1 2) := by
  rw [← show mkRat (sg false 1) 2 = mkRat 1 2 from rfl, ← tx_coprime false 1 2 (by decide) (by decide)]; simp [tx, dd_small]
theorem tx_13 : ([49, 47, 51] : List UInt8) = txt (mkRat 1 3) := by
  rw [← show mkRat (sg false 1) 3 = mkRat 1 3 from rfl, ← tx_coprime false 1 3 (by decide) (by decide)]; simp [tx, dd_small]
theorem tx_56 : ([53, 47, 54] : List UInt8) = txt (mkRat 5 6) := by
  rw [← show mkRat (sg false 5) 6 = mkRat 5 6 from rfl, ← tx_coprime false 5 6 (by decide) (by decide)]; simp [tx, dd_small]
theorem tx_152 : ([49, 53, 47, 50] : List UInt8) = txt (mkRat 15 2) := by
  rw [← show mkRat (sg false 15) 2 = mkRat 15 2 from rfl, ← tx_coprime false 15 2 (by decide) (by decide)]; simp [tx, dd_small, dd_big]
theorem tx_m34 : ([45, 51, 47, 52] : List UInt8) = txt (mkRat (-3) 4) := by
  rw [← show mkRat (sg true 3) 4 = mkRat (-3) 4 from rfl, ← tx_coprime true 3 4 (by decide) (by decide)]; simp [tx, dd_small]
theorem tx_m7 : ([45, 55] : List UInt8) = txt ((-7 : Int) : Rat) := by rw [txt_int]; simp [dd_small]
theorem tx_m4 : ([45, 52] : List UInt8) = txt ((-4 : Int) : Rat) := by rw [txt_int]; simp [dd_small]
theorem tx_2 : ([50] : List UInt8) = txt ((2 : Int) : Rat) := by rw [txt_int]; simp [dd_small]
theorem rd_24 : rd [50, 47, 52] = none := rd_none fun q h => by
  obtain ⟨_, hs⟩ := shape (neg := false) (s := [50, 47, 52]) (by simp) h
  by_cases h1 : q.den = 1
  · rw [if_pos h1, List.append_nil] at hs
    exact not_47 (n := q.num.natAbs) (by rw [← hs]; simp)
  · rw [if_neg h1] at hs
    obtain ⟨e1, e2⟩ := append_47 (a := [50]) (b := [52]) (by decide) not_47 hs
    have m1 := congrArg dval e1
    have m2 := congrArg dval e2
    rw [dval_dd] at m1 m2
    have := q.reduced
    rw [← m1, ← m2] at this
    revert this; decide
theorem parse_750 : n_Parse [48, 48, 55, 46, 53, 48] = some (([49, 53, 47, 50], true, ()), ()) := by
  obtain ⟨neg, x, y, hd, h⟩ := parse_eq (a := [48, 48, 55, 46, 53, 48]) (by simp)
  have hm : DecParts [48, 48, 55, 46, 53, 48] false [48, 48, 55] (some [53, 48]) := by
    refine .mk (s := [48, 48, 55, 46, 53, 48]) (neg := false) rfl ?_ (.inr ⟨[53, 48], rfl, rfl, by decide⟩)
    simp
  obtain ⟨rfl, rfl, rfl⟩ := DecParts.unique hd hm
  rw [h]
  have hf : figs [48, 48, 55] ∧ (∀ z, some ([53, 48] : List UInt8) = some z → figs z) := by
    refine ⟨⟨by simp, ?_⟩, ?_⟩
    · intro c hc; simp at hc; rcases hc with rfl | rfl <;> exact ⟨by decide, by decide⟩
    · intro z hz
      cases hz
      refine ⟨by simp, ?_⟩
      intro c hc; simp at hc; rcases hc with rfl | rfl <;> exact ⟨by decide, by decide⟩
  rw [sParse, if_pos hf]
  have e : mkRat (sg false (dval ([48, 48, 55] ++ (some ([53, 48] : List UInt8)).getD []))) (10 ^ ((some ([53, 48] : List UInt8)).getD []).length) = mkRat 15 2 := by
    rw [show sg false (dval ([48, 48, 55] ++ (some ([53, 48] : List UInt8)).getD [])) = 750 from rfl, show 10 ^ ((some ([53, 48] : List UInt8)).getD []).length = 100 from rfl]
    decide
  simp only [e, ← tx_152]
theorem awake_eq : l_awake = some ((true, ()), ()) := by
  have h1 : n_Add [49, 47, 50] [49, 47, 51] = some (([53, 47, 54], ()), ()) := by
    rw [Add_eq (by simp) (by simp), tx_12, tx_13, tx_56, bin_txt, show mkRat 1 2 + mkRat 1 3 = mkRat 5 6 by rw [Rat.mkRat_add_mkRat _ _ (by decide) (by decide)]; rfl]
  have d1 := D_small (n := -7) (by decide)
  have d2 := D_small (n := 2) (by decide)
  have h2 : n_Quo [45, 55] [50] = some (([45, 52], ()), ()) := by
    rw [tx_m7, tx_2, tx_m4, Quo_t (by decide) (by omega) (by omega)]; rfl
  have h3 : n_Rem [45, 55] [50] = some (([49], ()), ()) := by
    rw [tx_m7, tx_2, t1, Rem_t (by decide) (by omega) (by omega)]; rfl
  have h4 : n_Valid [50, 47, 52] = some ((false, ()), ()) := by rw [valid_eq (by simp), rd_24]; rfl
  have h5 : n_Valid [45, 51, 47, 52] = some ((true, ()), ()) := by rw [valid_eq (by simp), tx_m34, rd_txt]; rfl
  unfold l_awake
  simp only [parse_750, h1, h2, h3, h4, h5, bind_some', beq_self_eq_true, cond_t, Bool.not_false]
end Go.AM.Num
end
section
set_option linter.unusedSimpArgs false
set_option linter.unusedVariables false
namespace Go.AM.Num

theorem s16_eq (neg : Bool) (x z : List UInt8) (hz : z.length ≤ 1000000) :
    loopO r_ParseDecimal_s16 (neg, x, z, [49], 0, ()) = some (Ex.exit 2, (neg, x, z, 49 :: List.replicate z.length 48, (z.length : Int), ())) := by
  obtain ⟨r, hr, rfl⟩ := loopO_ind (step := r_ParseDecimal_s16) (Q := fun r => r = (Ex.exit 2, (neg, x, z, 49 :: List.replicate z.length 48, (z.length : Int), ())))
    (fun m st => ∃ k : Nat, m + k = z.length ∧ st = (neg, x, z, 49 :: List.replicate k 48, (k : Int), ())) (by
      rintro m st ⟨k, hm, rfl⟩
      by_cases h : k < z.length
      · refine .inr ⟨m - 1, (neg, x, z, 49 :: List.replicate (k + 1) 48, ((k + 1 : Nat) : Int), ()), ?_, by omega, k + 1, by omega, rfl⟩
        have g : (49 :: List.replicate k (48 : UInt8)).length + ([48] : List UInt8).length ≤ maxS := by rw [maxS_eq]; simp; omega
        have e : (49 :: List.replicate k (48 : UInt8)) ++ [48] = 49 :: List.replicate (k + 1) 48 := by rw [List.replicate_succ']; rfl
        simp (disch := (first | omega | (simp only [maxN_eq, List.length_append, List.length_cons, List.length_nil, List.length_set, List.length_replicate, List.length_take, List.length_drop]; omega))) only [r_ParseDecimal_s16, grd_dec g, e, grd_tt, grd_and, grd_dec, grd_ne, cond_dt, cond_df, cond_et, cond_ef, cond_nt, cond_nf, w64, wu64, wu32, wu8, tm, td, bind_some', same_ee, same_er, same_re, same_rr, cond_t, cond_f, Bool.not_true, Bool.not_false]
        rfl
      · have hk : k = z.length := by omega
        subst hk
        refine .inl ⟨_, ?_, ?_, rfl⟩
        · simp (disch := (first | omega | (simp only [maxN_eq, List.length_append, List.length_cons, List.length_nil, List.length_set, List.length_replicate, List.length_take, List.length_drop]; omega))) only [r_ParseDecimal_s16, grd_tt, grd_and, grd_dec, grd_ne, cond_dt, cond_df, cond_et, cond_ef, cond_nt, cond_nf, w64, wu64, wu32, wu8, tm, td, bind_some', same_ee, same_er, same_re, same_rr, cond_t, cond_f, Bool.not_true, Bool.not_false]
        · simp) z.length _ ⟨0, by omega, rfl⟩
  exact hr
/-- What is asked of the parts. -/
noncomputable def dtail (neg : Bool) (x z : List UInt8) : Option ((List UInt8 × Bool × Unit) × Unit) :=
  (r_digits x).bind fun r2 =>
  cond (!r2.1.1)
    (some ((([] : List UInt8), false, ()), ()))
    ((loopO r_ParseDecimal_s16 (neg, x, z, ([49] : List UInt8), 0, ())).bind fun y3 =>
    cond (Ex.same y3.1 (Ex.exit 2))
      (grd (decide (y3.2.2.1.length + y3.2.2.2.1.length ≤ maxS)) (
        (r_trim (y3.2.2.1 ++ y3.2.2.2.1)).bind fun r4 =>
        (r_reduce y3.2.1 r4.1.1 y3.2.2.2.2.1).bind fun r5 =>
        (r_ratio_text (r5.1.1.1, r5.1.1.2.1, r5.1.1.2.2)).bind fun r6 =>
        some ((r6.1.1, true, ()), ())))
      (none))
theorem dtail_eq (neg : Bool) (x z : List UInt8) (hz : AllD z) (hl : x.length + z.length ≤ 1000000) :
    dtail neg x z = some ((if figs x then (txt (mkRat (sg neg (dval (x ++ z))) (10 ^ z.length)), true, ()) else ([], false, ())), ()) := by
  have d1 := r_digits_eq (s := x) (by omega)
  unfold dtail
  by_cases f : figs x
  · have g : x.length + z.length ≤ maxS := by rw [maxS_eq]; omega
    have t1 := trim_dval (s := x ++ z) (f.2.app hz) (by simp [f.1]) (by rw [List.length_append]; omega)
    obtain ⟨p1, p2⟩ := pow_digits z.length
    have hp : dd (10 ^ z.length) = 49 :: List.replicate z.length 48 := by
      rw [← p1]; exact (dd_of p2 (by simp) (.inr (by simp))).symm
    have l1 := dd_dval_len (f.2.app hz)
    rw [List.length_append] at l1
    obtain ⟨r, g1, g2⟩ := r_fin neg (dval (x ++ z)) (10 ^ z.length) (by have := Nat.one_le_pow z.length 10 (by decide); omega) (by omega) (by rw [hp]; simp; omega)
    rw [hp] at g1
    simp (disch := (first | omega | (simp only [maxN_eq, List.length_append, List.length_cons, List.length_nil, List.length_set, List.length_replicate, List.length_take, List.length_drop]; omega))) only [d1, decide_eq_true f, s16_eq neg x z (by omega), grd_dec g, t1, g1, g2, if_pos f, grd_tt, grd_and, grd_dec, grd_ne, cond_dt, cond_df, cond_et, cond_ef, cond_nt, cond_nf, w64, wu64, wu32, wu8, tm, td, bind_some', same_ee, same_er, same_re, same_rr, cond_t, cond_f, Bool.not_true, Bool.not_false]
  · simp (disch := (first | omega | (simp only [maxN_eq, List.length_append, List.length_cons, List.length_nil, List.length_set, List.length_replicate, List.length_take, List.length_drop]; omega))) only [d1, decide_eq_false f, if_neg f, grd_tt, grd_and, grd_dec, grd_ne, cond_dt, cond_df, cond_et, cond_ef, cond_nt, cond_nf, w64, wu64, wu32, wu8, tm, td, bind_some', same_ee, same_er, same_re, same_rr, cond_t, cond_f, Bool.not_true, Bool.not_false]
theorem d6_eq (s : List UInt8) (neg : Bool) (hl : s.length ≤ 1000000) :
    (∃ x z i, loopO r_ParseDecimal_s6 (s, [], false, neg, s, [], 0, ()) = some (Ex.exit 0, (s, [], false, neg, x, z, i, ())) ∧ ((s = x ∧ z = [] ∧ (46 : UInt8) ∉ s) ∨ (s = x ++ 46 :: z ∧ (46 : UInt8) ∉ x ∧ figs z))) ∨
    (∃ x z i, loopO r_ParseDecimal_s6 (s, [], false, neg, s, [], 0, ()) = some (Ex.ret, (s, [], false, neg, x, z, i, ())) ∧ s = x ++ 46 :: z ∧ (46 : UInt8) ∉ x ∧ ¬ figs z) := by
  obtain ⟨r, hr, hq⟩ := loopO_ind (step := r_ParseDecimal_s6) (Q := fun r => (∃ x z i, r = (Ex.exit 0, (s, [], false, neg, x, z, i, ())) ∧ ((s = x ∧ z = [] ∧ (46 : UInt8) ∉ s) ∨ (s = x ++ 46 :: z ∧ (46 : UInt8) ∉ x ∧ figs z))) ∨ (∃ x z i, r = (Ex.ret, (s, [], false, neg, x, z, i, ())) ∧ s = x ++ 46 :: z ∧ (46 : UInt8) ∉ x ∧ ¬ figs z))
    (fun m st => ∃ k : Nat, m + k = s.length ∧ st = (s, [], false, neg, s, [], (k : Int), ()) ∧ (46 : UInt8) ∉ s.take k) (by
      rintro m x ⟨k, hm, rfl, hk⟩
      by_cases h : k < s.length
      · have hg := getD_u8 h
        have e : (k : Int).toNat = k := by omega
        have e1 : ((k : Int) + 1).toNat = k + 1 := by omega
        by_cases h46 : s[k] = 46
        · have hc : ((s[k].toNat : Nat) : Int) = 46 := by rw [h46]; rfl
          have hs : s = s.take k ++ 46 :: s.drop (k + 1) := by
            conv => lhs; rw [← List.take_append_drop k s, List.drop_eq_getElem_cons h, h46]
          have d1 := r_digits_eq (s := s.drop (k + 1)) (by rw [List.length_drop]; omega)
          by_cases f : figs (s.drop (k + 1))
          · refine .inl ⟨(Ex.exit 0, (s, [], false, neg, s.take k, s.drop (k + 1), (k : Int), ())), ?_, by simp, .inl ⟨s.take k, s.drop (k + 1), (k : Int), rfl, .inr ⟨hs, hk, f⟩⟩⟩
            simp (disch := (first | omega | (simp only [maxN_eq, List.length_append, List.length_cons, List.length_nil, List.length_set, List.length_replicate, List.length_take, List.length_drop]; omega))) only [r_ParseDecimal_s6, e, e1, hg, hc, d1, decide_eq_true f, grd_tt, grd_and, grd_dec, grd_ne, cond_dt, cond_df, cond_et, cond_ef, cond_nt, cond_nf, w64, wu64, wu32, wu8, tm, td, bind_some', same_ee, same_er, same_re, same_rr, cond_t, cond_f, Bool.not_true, Bool.not_false]
          · refine .inl ⟨(Ex.ret, (s, [], false, neg, s.take k, s.drop (k + 1), (k : Int), ())), ?_, by simp, .inr ⟨s.take k, s.drop (k + 1), (k : Int), rfl, hs, hk, f⟩⟩
            simp (disch := (first | omega | (simp only [maxN_eq, List.length_append, List.length_cons, List.length_nil, List.length_set, List.length_replicate, List.length_take, List.length_drop]; omega))) only [r_ParseDecimal_s6, e, e1, hg, hc, d1, decide_eq_false f, grd_tt, grd_and, grd_dec, grd_ne, cond_dt, cond_df, cond_et, cond_ef, cond_nt, cond_nf, w64, wu64, wu32, wu8, tm, td, bind_some', same_ee, same_er, same_re, same_rr, cond_t, cond_f, Bool.not_true, Bool.not_false]
        · have hc : ((s[k].toNat : Nat) : Int) ≠ 46 := fun e => h46 (UInt8.toNat_inj.1 (by show s[k].toNat = 46; omega))
          refine .inr ⟨m - 1, (s, [], false, neg, s, [], ((k + 1 : Nat) : Int), ()), ?_, by omega, k + 1, by omega, rfl, ?_⟩
          · simp (disch := (first | omega | (simp only [maxN_eq, List.length_append, List.length_cons, List.length_nil, List.length_set, List.length_replicate, List.length_take, List.length_drop]; omega))) only [r_ParseDecimal_s6, e, hg, cond_ef hc, grd_tt, grd_and, grd_dec, grd_ne, cond_dt, cond_df, cond_et, cond_ef, cond_nt, cond_nf, w64, wu64, wu32, wu8, tm, td, bind_some', same_ee, same_er, same_re, same_rr, cond_t, cond_f, Bool.not_true, Bool.not_false]
            rfl
          · rw [List.take_succ_eq_append_getElem h]
            intro hm'
            rcases List.mem_append.1 hm' with hm' | hm'
            · exact hk hm'
            · exact h46 (List.mem_singleton.1 hm').symm
      · have hks : k = s.length := by omega
        subst hks
        refine .inl ⟨(Ex.exit 0, (s, [], false, neg, s, [], (s.length : Int), ())), ?_, by simp, .inl ⟨s, [], _, rfl, .inl ⟨rfl, rfl, by simpa using hk⟩⟩⟩
        simp (disch := (first | omega | (simp only [maxN_eq, List.length_append, List.length_cons, List.length_nil, List.length_set, List.length_replicate, List.length_take, List.length_drop]; omega))) only [r_ParseDecimal_s6, grd_tt, grd_and, grd_dec, grd_ne, cond_dt, cond_df, cond_et, cond_ef, cond_nt, cond_nf, w64, wu64, wu32, wu8, tm, td, bind_some', same_ee, same_er, same_re, same_rr, cond_t, cond_f, Bool.not_true, Bool.not_false]) s.length _ ⟨0, by omega, rfl, by simp⟩
  rcases hq with ⟨x, z, i, rfl, hq⟩ | ⟨x, z, i, rfl, hq⟩
  · exact .inl ⟨x, z, i, hr, hq⟩
  · exact .inr ⟨x, z, i, hr, hq⟩
/-- What is done after the sign. -/
noncomputable def dbody (s : List UInt8) (neg : Bool) : Option ((List UInt8 × Bool × Unit) × Unit) :=
  (loopO r_ParseDecimal_s6 (s, ([] : List UInt8), false, neg, s, ([] : List UInt8), 0, ())).bind fun y1 =>
  cond (Ex.same y1.1 (Ex.exit 0))
    (dtail y1.2.2.2.2.1 y1.2.2.2.2.2.1 y1.2.2.2.2.2.2.1)
    (cond (Ex.same y1.1 Ex.ret)
      (some ((y1.2.2.1, y1.2.2.2.1, ()), ()))
      (none))
theorem dbody_eq {a s : List UInt8} {neg : Bool} (hs : a = sgn neg ++ s) (hn : neg = false → ∀ r, s ≠ 45 :: r) (hl : s.length ≤ 1000000) :
    ∃ x y, DecParts a neg x y ∧ dbody s neg = some (((sParse neg x y).1, (sParse neg x y).2, ()), ()) := by
  unfold dbody
  rcases d6_eq s neg hl with ⟨x, z, i, h1, h2⟩ | ⟨x, z, i, h1, h2, h3, h4⟩
  · rcases h2 with ⟨e, rfl, h3⟩ | ⟨e, h3, h4⟩
    · refine ⟨x, none, .mk hs hn (.inl ⟨rfl, e, h3⟩), ?_⟩
      have ht := dtail_eq neg x [] (fun c hc => by simp at hc) (by rw [← e]; simpa using hl)
      simp (disch := (first | omega | (simp only [maxN_eq, List.length_append, List.length_cons, List.length_nil, List.length_set, List.length_replicate, List.length_take, List.length_drop]; omega))) only [h1, ht, grd_tt, grd_and, grd_dec, grd_ne, cond_dt, cond_df, cond_et, cond_ef, cond_nt, cond_nf, w64, wu64, wu32, wu8, tm, td, bind_some', same_ee, same_er, same_re, same_rr, cond_t, cond_f, Bool.not_true, Bool.not_false]
      unfold sParse
      by_cases f : figs x
      · rw [if_pos f, if_pos ⟨f, fun z hz => by cases hz⟩]; rfl
      · rw [if_neg f, if_neg (fun h => f h.1)]
    · refine ⟨x, some z, .mk hs hn (.inr ⟨z, rfl, e, h3⟩), ?_⟩
      have hle : s.length = x.length + (z.length + 1) := by rw [e]; simp
      have ht := dtail_eq neg x z h4.2 (by omega)
      simp (disch := (first | omega | (simp only [maxN_eq, List.length_append, List.length_cons, List.length_nil, List.length_set, List.length_replicate, List.length_take, List.length_drop]; omega))) only [h1, ht, grd_tt, grd_and, grd_dec, grd_ne, cond_dt, cond_df, cond_et, cond_ef, cond_nt, cond_nf, w64, wu64, wu32, wu8, tm, td, bind_some', same_ee, same_er, same_re, same_rr, cond_t, cond_f, Bool.not_true, Bool.not_false]
      unfold sParse
      by_cases f : figs x
      · rw [if_pos f, if_pos ⟨f, fun z' hz => by cases hz; exact h4⟩]; rfl
      · rw [if_neg f, if_neg (fun h => f h.1)]
  · refine ⟨x, some z, .mk hs hn (.inr ⟨z, rfl, h2, h3⟩), ?_⟩
    simp (disch := (first | omega | (simp only [maxN_eq, List.length_append, List.length_cons, List.length_nil, List.length_set, List.length_replicate, List.length_take, List.length_drop]; omega))) only [h1, grd_tt, grd_and, grd_dec, grd_ne, cond_dt, cond_df, cond_et, cond_ef, cond_nt, cond_nf, w64, wu64, wu32, wu8, tm, td, bind_some', same_ee, same_er, same_re, same_rr, cond_t, cond_f, Bool.not_true, Bool.not_false]
    unfold sParse
    rw [if_neg (fun h => h4 (h.2 z rfl))]
theorem r_dec_eq {a : List UInt8} (hl : a.length ≤ 1000000) : ∃ neg x y, DecParts a neg x y ∧ r_ParseDecimal a = some (((sParse neg x y).1, (sParse neg x y).2, ()), ()) := by
  have h00 : ((0 : Int)).toNat = 0 := rfl
  have h11 : ((1 : Int)).toNat = 1 := rfl
  by_cases h0 : a = []
  · subst h0
    obtain ⟨x, y, hd, hb⟩ := dbody_eq (a := []) (s := []) (neg := false) rfl (fun _ r => by simp) (by simp)
    refine ⟨false, x, y, hd, ?_⟩
    rw [← hb]
    have hz := beq_of (rfl : ([] : List UInt8) = [])
    unfold r_ParseDecimal
    simp (disch := (first | omega | (simp only [maxN_eq, List.length_append, List.length_cons, List.length_nil, List.length_set, List.length_replicate, List.length_take, List.length_drop]; omega))) only [hz, grd_tt, grd_and, grd_dec, grd_ne, cond_dt, cond_df, cond_et, cond_ef, cond_nt, cond_nf, w64, wu64, wu32, wu8, tm, td, bind_some', same_ee, same_er, same_re, same_rr, cond_t, cond_f, Bool.not_true, Bool.not_false]
    rfl
  · cases a with
    | nil => exact absurd rfl h0
    | cons c s =>
      have hne := beq_ne h0
      have hg : (c :: s : List UInt8).getD 0 0 = c := rfl
      have hlen : (c :: s).length = s.length + 1 := rfl
      by_cases hc : c = 45
      · subst hc
        obtain ⟨x, y, hd, hb⟩ := dbody_eq (a := 45 :: s) (s := s) (neg := true) rfl (fun h => by cases h) (by omega)
        have h45 : (((45 : UInt8).toNat : Nat) : Int) = 45 := rfl
        have hdrop : (45 :: s : List UInt8).drop 1 = s := rfl
        refine ⟨true, x, y, hd, ?_⟩
        rw [← hb]
        unfold r_ParseDecimal
        simp (disch := (first | omega | (simp only [maxN_eq, List.length_append, List.length_cons, List.length_nil, List.length_set, List.length_replicate, List.length_take, List.length_drop]; omega))) only [hne, h00, hg, h45, h11, hdrop, grd_tt, grd_and, grd_dec, grd_ne, cond_dt, cond_df, cond_et, cond_ef, cond_nt, cond_nf, w64, wu64, wu32, wu8, tm, td, bind_some', same_ee, same_er, same_re, same_rr, cond_t, cond_f, Bool.not_true, Bool.not_false]
        rfl
      · have hcn : ((c.toNat : Nat) : Int) ≠ 45 := fun e => hc (UInt8.toNat_inj.1 (by show c.toNat = 45; omega))
        obtain ⟨x, y, hd, hb⟩ := dbody_eq (a := c :: s) (s := c :: s) (neg := false) rfl (fun _ r h => hc (by simpa using (List.cons.inj h).1)) (by omega)
        have hf : (((c.toNat : Nat) : Int) == 45) = false := by simpa using hcn
        refine ⟨false, x, y, hd, ?_⟩
        rw [← hb]
        unfold r_ParseDecimal
        simp (disch := (first | omega | (simp only [maxN_eq, List.length_append, List.length_cons, List.length_nil, List.length_set, List.length_replicate, List.length_take, List.length_drop]; omega))) only [hne, h00, hg, hf, grd_tt, grd_and, grd_dec, grd_ne, cond_dt, cond_df, cond_et, cond_ef, cond_nt, cond_nf, w64, wu64, wu32, wu8, tm, td, bind_some', same_ee, same_er, same_re, same_rr, cond_t, cond_f, Bool.not_true, Bool.not_false]
        rfl
theorem parse_both {a : List UInt8} (hl : a.length ≤ 1000000) : ∃ s b, n_Parse a = some ((s, b, ()), ()) ∧ r_ParseDecimal a = some ((s, b, ()), ()) := by
  obtain ⟨n1, x1, y1, h1, e1⟩ := parse_eq hl
  obtain ⟨n2, x2, y2, h2, e2⟩ := r_dec_eq hl
  obtain ⟨rfl, rfl, rfl⟩ := DecParts.unique h1 h2
  exact ⟨_, _, e1, e2⟩
end Go.AM.Num
end
section
set_option linter.unusedSimpArgs false
set_option linter.unusedVariables false
namespace Go.AM.Num

theorem getD_s {l : List (List UInt8)} {k : Nat} (h : k < l.length) : l.getD k [] = l[k] := by rw [List.getD_eq_getElem?_getD, List.getElem?_eq_getElem h]; rfl

/-! ### Sums -/
noncomputable def badd (a b : List UInt8) : List UInt8 := bin (fun p q => txt (p + q)) a b
def sB : Nat → Nat
  | 0 => 2
  | k + 1 => 2 * sB k + 151
/-- Nothing, or a number of few digits. -/
def Few (n : Nat) (a : List UInt8) : Prop := a = [] ∨ ∃ p, a = txt p ∧ D p ≤ n
theorem Few.len {n : Nat} {a : List UInt8} (h : Few n a) : a.length ≤ n + 2 := by
  rcases h with rfl | ⟨p, rfl, h⟩
  · simp
  · have := txt_len p; omega
theorem Few.add {k : Nat} {a b : List UInt8} (h : Few (sB k) a) (hb : b.length ≤ 74) : Few (sB (k + 1)) (badd a b) := by
  unfold badd
  rcases h with rfl | ⟨p, rfl, h⟩
  · left; exact bin_l rd_nil
  · cases hr : rd b with
    | none => left; exact bin_r hr
    | some q =>
      right
      have e := rd_some hr
      have := D_of_len (q := q) (n := 74) (by rw [← e]; exact hb)
      refine ⟨p + q, by rw [e, bin_txt], ?_⟩
      have := D_add p q
      unfold sB; omega
theorem sB_le {k : Nat} (h : k ≤ 10) : sB k ≤ 200000 := by
  have : ∀ k, sB k ≤ sB (k + 1) := fun k => by show _ ≤ 2 * sB k + 151; omega
  have mono : ∀ j k, sB k ≤ sB (k + j) := fun j => by
    induction j with
    | zero => intro k; exact Nat.le_refl _
    | succ j ih => intro k; exact Nat.le_trans (ih k) (this (k + j))
  have := mono (10 - k) k
  rw [show k + (10 - k) = 10 by omega] at this
  have e : sB 10 = 156521 := rfl
  omega
noncomputable def sumF (l : List (List UInt8)) : List UInt8 := l.foldl badd [48]
theorem Few0 : Few (sB 0) [48] := .inr ⟨0, txt_zero.symm, by have : D 0 = 2 := by { unfold D; simp [dd_zero, dd_one] }; rw [this]; decide⟩
theorem few_fold {l : List (List UInt8)} (h : ∀ s ∈ l, s.length ≤ 74) (k : Nat) : Few (sB (l.take k).length) ((l.take k).foldl badd [48]) := by
  induction k with
  | zero => exact Few0
  | succ k ih =>
    by_cases hk : k < l.length
    · rw [List.take_succ_eq_append_getElem hk, List.foldl_append, List.length_append]
      exact ih.add (h _ (List.getElem_mem hk))
    · rw [show l.take (k + 1) = l.take k by rw [List.take_of_length_le (by omega), List.take_of_length_le (by omega)]]; exact ih
theorem fold_succ {l : List (List UInt8)} {k : Nat} (hk : k < l.length) : badd ((l.take k).foldl badd [48]) l[k] = (l.take (k + 1)).foldl badd [48] := by
  rw [List.take_succ_eq_append_getElem hk, List.foldl_append]; rfl
theorem few_len {l : List (List UInt8)} (h : ∀ s ∈ l, s.length ≤ 74) (h10 : l.length ≤ 10) (k : Nat) : ((l.take k).foldl badd [48]).length ≤ 200002 := by
  have h1 := (few_fold h k).len
  have h2 := sB_le (k := (l.take k).length) (by rw [List.length_take]; omega)
  omega
theorem n_sum_eq {l : List (List UInt8)} (h : ∀ s ∈ l, s.length ≤ 74) (h10 : l.length ≤ 10) : n_Sum l = some ((sumF l, ()), ()) := by
  obtain ⟨r, hr, rfl⟩ := loopO_ind (step := n_Sum_s3) (Q := fun r => r = (Ex.exit 0, (sumF l, l, (l.length : Int), (l.length : Int), ())))
    (fun m st => ∃ k : Nat, m + k = l.length ∧ st = ((l.take k).foldl badd [48], l, (l.length : Int), (k : Int), ())) (by
      rintro m st ⟨k, hm, rfl⟩
      by_cases hk : k < l.length
      · have e : (k : Int).toNat = k := by omega
        have hb := few_len h h10 k
        have ha := h _ (List.getElem_mem hk)
        have hadd := Add_eq (a := (l.take k).foldl badd [48]) (b := l[k]) (by omega) (by omega)
        have hadd' : n_Add ((l.take k).foldl badd [48]) l[k] = some (((l.take (k + 1)).foldl badd [48], ()), ()) := by rw [hadd, ← fold_succ hk]; rfl
        refine .inr ⟨m - 1, ((l.take (k + 1)).foldl badd [48], l, (l.length : Int), ((k + 1 : Nat) : Int), ()), ?_, by omega, k + 1, by omega, rfl⟩
        simp (disch := (first | omega | (simp only [maxN_eq, List.length_append, List.length_cons, List.length_nil, List.length_set, List.length_replicate, List.length_take, List.length_drop]; omega))) only [n_Sum_s3, e, getD_s hk, hadd', grd_tt, grd_and, grd_dec, grd_ne, cond_dt, cond_df, cond_et, cond_ef, cond_nt, cond_nf, w64, wu64, wu32, wu8, tm, td, bind_some', same_ee, same_er, same_re, same_rr, cond_t, cond_f, Bool.not_true, Bool.not_false]
        rfl
      · have hk' : k = l.length := by omega
        subst hk'
        refine .inl ⟨_, ?_, ?_, rfl⟩
        · simp (disch := (first | omega | (simp only [maxN_eq, List.length_append, List.length_cons, List.length_nil, List.length_set, List.length_replicate, List.length_take, List.length_drop]; omega))) only [n_Sum_s3, grd_tt, grd_and, grd_dec, grd_ne, cond_dt, cond_df, cond_et, cond_ef, cond_nt, cond_nf, w64, wu64, wu32, wu8, tm, td, bind_some', same_ee, same_er, same_re, same_rr, cond_t, cond_f, Bool.not_true, Bool.not_false]
          rw [List.take_length]; rfl
        · simp) l.length ([48], l, (l.length : Int), 0, ()) ⟨0, by omega, rfl⟩
  unfold n_Sum
  rw [hr, bind_some']
  simp (disch := (first | omega | (simp only [maxN_eq, List.length_append, List.length_cons, List.length_nil, List.length_set, List.length_replicate, List.length_take, List.length_drop]; omega))) only [grd_tt, grd_and, grd_dec, grd_ne, cond_dt, cond_df, cond_et, cond_ef, cond_nt, cond_nf, w64, wu64, wu32, wu8, tm, td, bind_some', same_ee, same_er, same_re, same_rr, cond_t, cond_f, Bool.not_true, Bool.not_false]
theorem r_sum_eq {l : List (List UInt8)} (h : ∀ s ∈ l, s.length ≤ 74) (h10 : l.length ≤ 10) : r_Sum l = some ((sumF l, ()), ()) := by
  obtain ⟨r, hr, rfl⟩ := loopO_ind (step := r_Sum_s3) (Q := fun r => r = (Ex.exit 0, (l, sumF l, (l.length : Int), ())))
    (fun m st => ∃ k : Nat, m + k = l.length ∧ st = (l, (l.take k).foldl badd [48], (k : Int), ())) (by
      rintro m st ⟨k, hm, rfl⟩
      by_cases hk : k < l.length
      · have e : (k : Int).toNat = k := by omega
        have hb := few_len h h10 k
        have ha := h _ (List.getElem_mem hk)
        have hadd := r_add_eq' (a := (l.take k).foldl badd [48]) (b := l[k]) (by omega) (by omega)
        have hadd' : r_Add ((l.take k).foldl badd [48]) l[k] = some (((l.take (k + 1)).foldl badd [48], ()), ()) := by rw [hadd, ← fold_succ hk]; rfl
        refine .inr ⟨m - 1, (l, (l.take (k + 1)).foldl badd [48], ((k + 1 : Nat) : Int), ()), ?_, by omega, k + 1, by omega, rfl⟩
        simp (disch := (first | omega | (simp only [maxN_eq, List.length_append, List.length_cons, List.length_nil, List.length_set, List.length_replicate, List.length_take, List.length_drop]; omega))) only [r_Sum_s3, e, getD_s hk, hadd', grd_tt, grd_and, grd_dec, grd_ne, cond_dt, cond_df, cond_et, cond_ef, cond_nt, cond_nf, w64, wu64, wu32, wu8, tm, td, bind_some', same_ee, same_er, same_re, same_rr, cond_t, cond_f, Bool.not_true, Bool.not_false]
        rfl
      · have hk' : k = l.length := by omega
        subst hk'
        refine .inl ⟨_, ?_, ?_, rfl⟩
        · simp (disch := (first | omega | (simp only [maxN_eq, List.length_append, List.length_cons, List.length_nil, List.length_set, List.length_replicate, List.length_take, List.length_drop]; omega))) only [r_Sum_s3, grd_tt, grd_and, grd_dec, grd_ne, cond_dt, cond_df, cond_et, cond_ef, cond_nt, cond_nf, w64, wu64, wu32, wu8, tm, td, bind_some', same_ee, same_er, same_re, same_rr, cond_t, cond_f, Bool.not_true, Bool.not_false]
          rw [List.take_length]; rfl
        · simp) l.length (l, [48], 0, ()) ⟨0, by omega, rfl⟩
  unfold r_Sum
  rw [hr, bind_some']
  simp (disch := (first | omega | (simp only [maxN_eq, List.length_append, List.length_cons, List.length_nil, List.length_set, List.length_replicate, List.length_take, List.length_drop]; omega))) only [grd_tt, grd_and, grd_dec, grd_ne, cond_dt, cond_df, cond_et, cond_ef, cond_nt, cond_nf, w64, wu64, wu32, wu8, tm, td, bind_some', same_ee, same_er, same_re, same_rr, cond_t, cond_f, Bool.not_true, Bool.not_false]
theorem sum_txt (qs : List Rat) (a : Rat) : (qs.map txt).foldl badd (txt a) = txt (qs.foldl (· + ·) a) := by
  induction qs generalizing a with
  | nil => rfl
  | cons q qs ih =>
    simp only [List.map_cons, List.foldl_cons]
    rw [show badd (txt a) (txt q) = txt (a + q) from bin_txt _ _ _, ih]
theorem fold_from (qs : List Rat) (a : Rat) : qs.foldl (· + ·) a = a + qs.foldr (fun x y => y + x) 0 := by
  induction qs generalizing a with
  | nil => simp [Rat.add_zero]
  | cons q qs ih =>
    simp only [List.foldl_cons, List.foldr_cons]
    rw [ih]; grind
theorem sum_rev (qs : List Rat) : sumF (qs.map txt).reverse = sumF (qs.map txt) := by
  unfold sumF
  rw [← List.map_reverse, ← txt_zero, sum_txt, sum_txt, List.foldl_reverse, fold_from]
  rw [Rat.zero_add]

/-! ### The least, the greatest -/
/-- The best of a list, by a sign; nothing where one is no number. -/
noncomputable def bst (sg : Int) : Bool → List UInt8 → List (List UInt8) → List UInt8
  | _, out, [] => out
  | first, out, x :: l => if (rd x).isSome then bst sg false (if first then x else if sCmp x out = sg then x else out) l else []
theorem bst_cons (sg : Int) (f : Bool) (out x : List UInt8) (l : List (List UInt8)) : bst sg f out (x :: l) = if (rd x).isSome then bst sg false (if f then x else if sCmp x out = sg then x else out) l else [] := rfl
theorem bst_nil (sg : Int) (f : Bool) (out : List UInt8) : bst sg f out [] = out := rfl
theorem sCmp_in (a b : List UInt8) : -1 ≤ sCmp a b ∧ sCmp a b ≤ 1 := by
  unfold sCmp
  split
  · rename_i p q _ _
    rcases Int.lt_trichotomy (p - q).num 0 with h | h | h
    · rw [Int.sign_eq_neg_one_of_neg h]; omega
    · rw [h]; simp
    · rw [Int.sign_eq_one_of_pos h]; omega
  · omega
theorem drop_cons {l : List (List UInt8)} {k : Nat} (h : k < l.length) : l.drop k = l[k] :: l.drop (k + 1) := List.drop_eq_getElem_cons h
theorem n_best_eq (sg : Int) {l : List (List UInt8)} (h : ∀ s ∈ l, s.length ≤ 74) (hl : l.length ≤ 1000000) : n_best sg l = some ((bst sg true [] l, ()), ()) := by
  obtain ⟨r, hr, hq⟩ := loopO_ind (step := n_best_s3) (Q := fun r => (∃ i, r = (Ex.exit 0, (sg, [], bst sg true [] l, l, (l.length : Int), i, ()))) ∨ (∃ o i, r = (Ex.ret, (sg, [], o, l, (l.length : Int), i, ())) ∧ bst sg true [] l = []))
    (fun m st => ∃ (k : Nat) (out : List UInt8), m + k = l.length ∧ st = (sg, [], out, l, (l.length : Int), (k : Int), ()) ∧ out.length ≤ 74 ∧ bst sg (decide (k = 0)) out (l.drop k) = bst sg true [] l) (by
      rintro m st ⟨k, out, hm, rfl, ho, hb⟩
      by_cases hk : k < l.length
      · have e : (k : Int).toNat = k := by omega
        have ha := h _ (List.getElem_mem hk)
        have hv := valid_eq (a := l[k]) (by omega)
        rw [drop_cons hk, bst_cons] at hb
        cases hs : (rd l[k]).isSome with
        | false =>
          rw [hs] at hv hb
          refine .inl ⟨(Ex.ret, (sg, [], out, l, (l.length : Int), (k : Int), ())), ?_, by simp, .inr ⟨out, (k : Int), rfl, by rw [← hb]; rfl⟩⟩
          simp (disch := (first | omega | (simp only [maxN_eq, List.length_append, List.length_cons, List.length_nil, List.length_set, List.length_replicate, List.length_take, List.length_drop]; omega))) only [n_best_s3, e, getD_s hk, hv, grd_tt, grd_and, grd_dec, grd_ne, cond_dt, cond_df, cond_et, cond_ef, cond_nt, cond_nf, w64, wu64, wu32, wu8, tm, td, bind_some', same_ee, same_er, same_re, same_rr, cond_t, cond_f, Bool.not_true, Bool.not_false]
        | true =>
          rw [hs] at hv hb
          rw [if_pos rfl] at hb
          by_cases h0 : k = 0
          · rw [decide_eq_true h0] at hb
            refine .inr ⟨m - 1, (sg, [], l[k], l, (l.length : Int), ((k + 1 : Nat) : Int), ()), ?_, by omega, k + 1, _, by omega, rfl, ha, by rw [decide_eq_false (by omega)]; rw [if_pos rfl] at hb; exact hb⟩
            simp (disch := (first | omega | (simp only [maxN_eq, List.length_append, List.length_cons, List.length_nil, List.length_set, List.length_replicate, List.length_take, List.length_drop]; omega))) only [n_best_s3, e, getD_s hk, hv, cond_et (show (k : Int) = 0 by omega), grd_tt, grd_and, grd_dec, grd_ne, cond_dt, cond_df, cond_et, cond_ef, cond_nt, cond_nf, w64, wu64, wu32, wu8, tm, td, bind_some', same_ee, same_er, same_re, same_rr, cond_t, cond_f, Bool.not_true, Bool.not_false]
            rfl
          · rw [decide_eq_false h0] at hb
            have hc := cmp_eq' (a := l[k]) (b := out) (by omega) (by omega)
            by_cases h1 : sCmp l[k] out = sg
            · refine .inr ⟨m - 1, (sg, [], l[k], l, (l.length : Int), ((k + 1 : Nat) : Int), ()), ?_, by omega, k + 1, _, by omega, rfl, ha, by rw [decide_eq_false (by omega)]; rw [if_pos h1, if_neg Bool.false_ne_true] at hb; exact hb⟩
              simp (disch := (first | omega | (simp only [maxN_eq, List.length_append, List.length_cons, List.length_nil, List.length_set, List.length_replicate, List.length_take, List.length_drop]; omega))) only [n_best_s3, e, getD_s hk, hv, cond_ef (show (k : Int) ≠ 0 by omega), hc, cond_et h1, grd_tt, grd_and, grd_dec, grd_ne, cond_dt, cond_df, cond_et, cond_ef, cond_nt, cond_nf, w64, wu64, wu32, wu8, tm, td, bind_some', same_ee, same_er, same_re, same_rr, cond_t, cond_f, Bool.not_true, Bool.not_false]
              rfl
            · refine .inr ⟨m - 1, (sg, [], out, l, (l.length : Int), ((k + 1 : Nat) : Int), ()), ?_, by omega, k + 1, _, by omega, rfl, ho, by rw [decide_eq_false (by omega)]; rw [if_neg h1, if_neg Bool.false_ne_true] at hb; exact hb⟩
              simp (disch := (first | omega | (simp only [maxN_eq, List.length_append, List.length_cons, List.length_nil, List.length_set, List.length_replicate, List.length_take, List.length_drop]; omega))) only [n_best_s3, e, getD_s hk, hv, cond_ef (show (k : Int) ≠ 0 by omega), hc, cond_ef h1, grd_tt, grd_and, grd_dec, grd_ne, cond_dt, cond_df, cond_et, cond_ef, cond_nt, cond_nf, w64, wu64, wu32, wu8, tm, td, bind_some', same_ee, same_er, same_re, same_rr, cond_t, cond_f, Bool.not_true, Bool.not_false]
              rfl
      · rw [List.drop_of_length_le (by omega), bst_nil] at hb
        rw [← hb]
        refine .inl ⟨(Ex.exit 0, (sg, [], out, l, (l.length : Int), (k : Int), ())), ?_, by simp, .inl ⟨(k : Int), rfl⟩⟩
        simp (disch := (first | omega | (simp only [maxN_eq, List.length_append, List.length_cons, List.length_nil, List.length_set, List.length_replicate, List.length_take, List.length_drop]; omega))) only [n_best_s3, grd_tt, grd_and, grd_dec, grd_ne, cond_dt, cond_df, cond_et, cond_ef, cond_nt, cond_nf, w64, wu64, wu32, wu8, tm, td, bind_some', same_ee, same_er, same_re, same_rr, cond_t, cond_f, Bool.not_true, Bool.not_false]) l.length (sg, [], [], l, (l.length : Int), 0, ()) ⟨0, [], by omega, rfl, by simp, rfl⟩
  unfold n_best
  rcases hq with ⟨i, rfl⟩ | ⟨o, i, rfl, hb⟩
  · rw [hr, bind_some']; simp (disch := (first | omega | (simp only [maxN_eq, List.length_append, List.length_cons, List.length_nil, List.length_set, List.length_replicate, List.length_take, List.length_drop]; omega))) only [grd_tt, grd_and, grd_dec, grd_ne, cond_dt, cond_df, cond_et, cond_ef, cond_nt, cond_nf, w64, wu64, wu32, wu8, tm, td, bind_some', same_ee, same_er, same_re, same_rr, cond_t, cond_f, Bool.not_true, Bool.not_false]
  · rw [hr, bind_some', hb]; simp (disch := (first | omega | (simp only [maxN_eq, List.length_append, List.length_cons, List.length_nil, List.length_set, List.length_replicate, List.length_take, List.length_drop]; omega))) only [grd_tt, grd_and, grd_dec, grd_ne, cond_dt, cond_df, cond_et, cond_ef, cond_nt, cond_nf, w64, wu64, wu32, wu8, tm, td, bind_some', same_ee, same_er, same_re, same_rr, cond_t, cond_f, Bool.not_true, Bool.not_false]
theorem r_min_eq {l : List (List UInt8)} (h : ∀ s ∈ l, s.length ≤ 74) (hl : l.length ≤ 1000000) : r_Min l = some ((bst (-1) true [] l, ()), ()) := by
  obtain ⟨r, hr, hq⟩ := loopO_ind (step := r_Min_s3) (Q := fun r => (∃ i, r = (Ex.exit 0, (l, [], bst (-1) true [] l, i, ()))) ∨ (∃ o i, r = (Ex.ret, (l, [], o, i, ())) ∧ bst (-1) true [] l = []))
    (fun m st => ∃ (k : Nat) (out : List UInt8), m + k = l.length ∧ st = (l, [], out, (k : Int), ()) ∧ out.length ≤ 74 ∧ bst (-1) (decide (k = 0)) out (l.drop k) = bst (-1) true [] l) (by
      rintro m st ⟨k, out, hm, rfl, ho, hb⟩
      by_cases hk : k < l.length
      · have e : (k : Int).toNat = k := by omega
        have ha := h _ (List.getElem_mem hk)
        have hv := r_valid_eq (a := l[k]) (by omega)
        rw [drop_cons hk, bst_cons] at hb
        cases hs : (rd l[k]).isSome with
        | false =>
          rw [hs] at hv hb
          refine .inl ⟨(Ex.ret, (l, [], out, (k : Int), ())), ?_, by simp, .inr ⟨out, (k : Int), rfl, by rw [← hb]; rfl⟩⟩
          simp (disch := (first | omega | (simp only [maxN_eq, List.length_append, List.length_cons, List.length_nil, List.length_set, List.length_replicate, List.length_take, List.length_drop]; omega))) only [r_Min_s3, e, getD_s hk, hv, grd_tt, grd_and, grd_dec, grd_ne, cond_dt, cond_df, cond_et, cond_ef, cond_nt, cond_nf, w64, wu64, wu32, wu8, tm, td, bind_some', same_ee, same_er, same_re, same_rr, cond_t, cond_f, Bool.not_true, Bool.not_false]
        | true =>
          rw [hs] at hv hb
          rw [if_pos rfl] at hb
          by_cases h0 : k = 0
          · rw [decide_eq_true h0] at hb
            refine .inr ⟨m - 1, (l, [], l[k], ((k + 1 : Nat) : Int), ()), ?_, by omega, k + 1, _, by omega, rfl, ha, by rw [decide_eq_false (by omega)]; rw [if_pos rfl] at hb; exact hb⟩
            simp (disch := (first | omega | (simp only [maxN_eq, List.length_append, List.length_cons, List.length_nil, List.length_set, List.length_replicate, List.length_take, List.length_drop]; omega))) only [r_Min_s3, e, getD_s hk, hv, cond_et (show (k : Int) = 0 by omega), grd_tt, grd_and, grd_dec, grd_ne, cond_dt, cond_df, cond_et, cond_ef, cond_nt, cond_nf, w64, wu64, wu32, wu8, tm, td, bind_some', same_ee, same_er, same_re, same_rr, cond_t, cond_f, Bool.not_true, Bool.not_false]
            rfl
          · rw [decide_eq_false h0] at hb
            have hc := r_cmp_eq' (a := l[k]) (b := out) (by omega) (by omega)
            have hin := sCmp_in l[k] out
            by_cases h1 : sCmp l[k] out = (-1)
            · refine .inr ⟨m - 1, (l, [], l[k], ((k + 1 : Nat) : Int), ()), ?_, by omega, k + 1, _, by omega, rfl, ha, by rw [decide_eq_false (by omega)]; rw [if_pos h1, if_neg Bool.false_ne_true] at hb; exact hb⟩
              have hlt : sCmp l[k] out < 0 := by omega
              simp (disch := (first | omega | (simp only [maxN_eq, List.length_append, List.length_cons, List.length_nil, List.length_set, List.length_replicate, List.length_take, List.length_drop]; omega))) only [r_Min_s3, e, getD_s hk, hv, cond_ef (show (k : Int) ≠ 0 by omega), hc, cond_dt hlt, grd_tt, grd_and, grd_dec, grd_ne, cond_dt, cond_df, cond_et, cond_ef, cond_nt, cond_nf, w64, wu64, wu32, wu8, tm, td, bind_some', same_ee, same_er, same_re, same_rr, cond_t, cond_f, Bool.not_true, Bool.not_false]
              rfl
            · refine .inr ⟨m - 1, (l, [], out, ((k + 1 : Nat) : Int), ()), ?_, by omega, k + 1, _, by omega, rfl, ho, by rw [decide_eq_false (by omega)]; rw [if_neg h1, if_neg Bool.false_ne_true] at hb; exact hb⟩
              have hlt : ¬ sCmp l[k] out < 0 := by omega
              simp (disch := (first | omega | (simp only [maxN_eq, List.length_append, List.length_cons, List.length_nil, List.length_set, List.length_replicate, List.length_take, List.length_drop]; omega))) only [r_Min_s3, e, getD_s hk, hv, cond_ef (show (k : Int) ≠ 0 by omega), hc, cond_df hlt, grd_tt, grd_and, grd_dec, grd_ne, cond_dt, cond_df, cond_et, cond_ef, cond_nt, cond_nf, w64, wu64, wu32, wu8, tm, td, bind_some', same_ee, same_er, same_re, same_rr, cond_t, cond_f, Bool.not_true, Bool.not_false]
              rfl
      · rw [List.drop_of_length_le (by omega), bst_nil] at hb
        rw [← hb]
        refine .inl ⟨(Ex.exit 0, (l, [], out, (k : Int), ())), ?_, by simp, .inl ⟨(k : Int), rfl⟩⟩
        simp (disch := (first | omega | (simp only [maxN_eq, List.length_append, List.length_cons, List.length_nil, List.length_set, List.length_replicate, List.length_take, List.length_drop]; omega))) only [r_Min_s3, grd_tt, grd_and, grd_dec, grd_ne, cond_dt, cond_df, cond_et, cond_ef, cond_nt, cond_nf, w64, wu64, wu32, wu8, tm, td, bind_some', same_ee, same_er, same_re, same_rr, cond_t, cond_f, Bool.not_true, Bool.not_false]) l.length (l, [], [], 0, ()) ⟨0, [], by omega, rfl, by simp, rfl⟩
  unfold r_Min
  rcases hq with ⟨i, rfl⟩ | ⟨o, i, rfl, hb⟩
  · rw [hr, bind_some']; simp (disch := (first | omega | (simp only [maxN_eq, List.length_append, List.length_cons, List.length_nil, List.length_set, List.length_replicate, List.length_take, List.length_drop]; omega))) only [grd_tt, grd_and, grd_dec, grd_ne, cond_dt, cond_df, cond_et, cond_ef, cond_nt, cond_nf, w64, wu64, wu32, wu8, tm, td, bind_some', same_ee, same_er, same_re, same_rr, cond_t, cond_f, Bool.not_true, Bool.not_false]
  · rw [hr, bind_some', hb]; simp (disch := (first | omega | (simp only [maxN_eq, List.length_append, List.length_cons, List.length_nil, List.length_set, List.length_replicate, List.length_take, List.length_drop]; omega))) only [grd_tt, grd_and, grd_dec, grd_ne, cond_dt, cond_df, cond_et, cond_ef, cond_nt, cond_nf, w64, wu64, wu32, wu8, tm, td, bind_some', same_ee, same_er, same_re, same_rr, cond_t, cond_f, Bool.not_true, Bool.not_false]
theorem n_min_eq {l : List (List UInt8)} (h : ∀ s ∈ l, s.length ≤ 74) (hl : l.length ≤ 1000000) : n_Min l = some ((bst (-1) true [] l, ()), ()) := by
  unfold n_Min; rw [n_best_eq (-1) h hl]; rfl
theorem r_max_eq {l : List (List UInt8)} (h : ∀ s ∈ l, s.length ≤ 74) (hl : l.length ≤ 1000000) : r_Max l = some ((bst 1 true [] l, ()), ()) := by
  obtain ⟨r, hr, hq⟩ := loopO_ind (step := r_Max_s3) (Q := fun r => (∃ i, r = (Ex.exit 0, (l, [], bst 1 true [] l, i, ()))) ∨ (∃ o i, r = (Ex.ret, (l, [], o, i, ())) ∧ bst 1 true [] l = []))
    (fun m st => ∃ (k : Nat) (out : List UInt8), m + k = l.length ∧ st = (l, [], out, (k : Int), ()) ∧ out.length ≤ 74 ∧ bst 1 (decide (k = 0)) out (l.drop k) = bst 1 true [] l) (by
      rintro m st ⟨k, out, hm, rfl, ho, hb⟩
      by_cases hk : k < l.length
      · have e : (k : Int).toNat = k := by omega
        have ha := h _ (List.getElem_mem hk)
        have hv := r_valid_eq (a := l[k]) (by omega)
        rw [drop_cons hk, bst_cons] at hb
        cases hs : (rd l[k]).isSome with
        | false =>
          rw [hs] at hv hb
          refine .inl ⟨(Ex.ret, (l, [], out, (k : Int), ())), ?_, by simp, .inr ⟨out, (k : Int), rfl, by rw [← hb]; rfl⟩⟩
          simp (disch := (first | omega | (simp only [maxN_eq, List.length_append, List.length_cons, List.length_nil, List.length_set, List.length_replicate, List.length_take, List.length_drop]; omega))) only [r_Max_s3, e, getD_s hk, hv, grd_tt, grd_and, grd_dec, grd_ne, cond_dt, cond_df, cond_et, cond_ef, cond_nt, cond_nf, w64, wu64, wu32, wu8, tm, td, bind_some', same_ee, same_er, same_re, same_rr, cond_t, cond_f, Bool.not_true, Bool.not_false]
        | true =>
          rw [hs] at hv hb
          rw [if_pos rfl] at hb
          by_cases h0 : k = 0
          · rw [decide_eq_true h0] at hb
            refine .inr ⟨m - 1, (l, [], l[k], ((k + 1 : Nat) : Int), ()), ?_, by omega, k + 1, _, by omega, rfl, ha, by rw [decide_eq_false (by omega)]; rw [if_pos rfl] at hb; exact hb⟩
            simp (disch := (first | omega | (simp only [maxN_eq, List.length_append, List.length_cons, List.length_nil, List.length_set, List.length_replicate, List.length_take, List.length_drop]; omega))) only [r_Max_s3, e, getD_s hk, hv, cond_et (show (k : Int) = 0 by omega), grd_tt, grd_and, grd_dec, grd_ne, cond_dt, cond_df, cond_et, cond_ef, cond_nt, cond_nf, w64, wu64, wu32, wu8, tm, td, bind_some', same_ee, same_er, same_re, same_rr, cond_t, cond_f, Bool.not_true, Bool.not_false]
            rfl
          · rw [decide_eq_false h0] at hb
            have hc := r_cmp_eq' (a := l[k]) (b := out) (by omega) (by omega)
            have hin := sCmp_in l[k] out
            by_cases h1 : sCmp l[k] out = 1
            · refine .inr ⟨m - 1, (l, [], l[k], ((k + 1 : Nat) : Int), ()), ?_, by omega, k + 1, _, by omega, rfl, ha, by rw [decide_eq_false (by omega)]; rw [if_pos h1, if_neg Bool.false_ne_true] at hb; exact hb⟩
              have hlt : sCmp l[k] out > 0 := by omega
              simp (disch := (first | omega | (simp only [maxN_eq, List.length_append, List.length_cons, List.length_nil, List.length_set, List.length_replicate, List.length_take, List.length_drop]; omega))) only [r_Max_s3, e, getD_s hk, hv, cond_ef (show (k : Int) ≠ 0 by omega), hc, cond_dt hlt, grd_tt, grd_and, grd_dec, grd_ne, cond_dt, cond_df, cond_et, cond_ef, cond_nt, cond_nf, w64, wu64, wu32, wu8, tm, td, bind_some', same_ee, same_er, same_re, same_rr, cond_t, cond_f, Bool.not_true, Bool.not_false]
              rfl
            · refine .inr ⟨m - 1, (l, [], out, ((k + 1 : Nat) : Int), ()), ?_, by omega, k + 1, _, by omega, rfl, ho, by rw [decide_eq_false (by omega)]; rw [if_neg h1, if_neg Bool.false_ne_true] at hb; exact hb⟩
              have hlt : ¬ sCmp l[k] out > 0 := by omega
              simp (disch := (first | omega | (simp only [maxN_eq, List.length_append, List.length_cons, List.length_nil, List.length_set, List.length_replicate, List.length_take, List.length_drop]; omega))) only [r_Max_s3, e, getD_s hk, hv, cond_ef (show (k : Int) ≠ 0 by omega), hc, cond_df hlt, grd_tt, grd_and, grd_dec, grd_ne, cond_dt, cond_df, cond_et, cond_ef, cond_nt, cond_nf, w64, wu64, wu32, wu8, tm, td, bind_some', same_ee, same_er, same_re, same_rr, cond_t, cond_f, Bool.not_true, Bool.not_false]
              rfl
      · rw [List.drop_of_length_le (by omega), bst_nil] at hb
        rw [← hb]
        refine .inl ⟨(Ex.exit 0, (l, [], out, (k : Int), ())), ?_, by simp, .inl ⟨(k : Int), rfl⟩⟩
        simp (disch := (first | omega | (simp only [maxN_eq, List.length_append, List.length_cons, List.length_nil, List.length_set, List.length_replicate, List.length_take, List.length_drop]; omega))) only [r_Max_s3, grd_tt, grd_and, grd_dec, grd_ne, cond_dt, cond_df, cond_et, cond_ef, cond_nt, cond_nf, w64, wu64, wu32, wu8, tm, td, bind_some', same_ee, same_er, same_re, same_rr, cond_t, cond_f, Bool.not_true, Bool.not_false]) l.length (l, [], [], 0, ()) ⟨0, [], by omega, rfl, by simp, rfl⟩
  unfold r_Max
  rcases hq with ⟨i, rfl⟩ | ⟨o, i, rfl, hb⟩
  · rw [hr, bind_some']; simp (disch := (first | omega | (simp only [maxN_eq, List.length_append, List.length_cons, List.length_nil, List.length_set, List.length_replicate, List.length_take, List.length_drop]; omega))) only [grd_tt, grd_and, grd_dec, grd_ne, cond_dt, cond_df, cond_et, cond_ef, cond_nt, cond_nf, w64, wu64, wu32, wu8, tm, td, bind_some', same_ee, same_er, same_re, same_rr, cond_t, cond_f, Bool.not_true, Bool.not_false]
  · rw [hr, bind_some', hb]; simp (disch := (first | omega | (simp only [maxN_eq, List.length_append, List.length_cons, List.length_nil, List.length_set, List.length_replicate, List.length_take, List.length_drop]; omega))) only [grd_tt, grd_and, grd_dec, grd_ne, cond_dt, cond_df, cond_et, cond_ef, cond_nt, cond_nf, w64, wu64, wu32, wu8, tm, td, bind_some', same_ee, same_er, same_re, same_rr, cond_t, cond_f, Bool.not_true, Bool.not_false]
theorem n_max_eq {l : List (List UInt8)} (h : ∀ s ∈ l, s.length ≤ 74) (hl : l.length ≤ 1000000) : n_Max l = some ((bst 1 true [] l, ()), ()) := by
  unfold n_Max; rw [n_best_eq 1 h hl]; rfl
end Go.AM.Num
end
