/- The law holds for every input: its pure part, its row and its card. No condition beyond what each statement says. -/
import Derived.Test.YtollagkikaapjaaGreatDoorR1
import Derived.Test.YtollagkikaapjaaGreatDoorM3
set_option linter.unusedSimpArgs false
set_option linter.unusedVariables false
section
set_option linter.unusedSimpArgs false
set_option linter.unusedVariables false
namespace Go.AM.Num
theorem sign_ediv {x : Int} {g : Nat} (hg : 0 < g) (h : (g : Int) ∣ x) : (x / (g : Int)).sign = x.sign := by
  obtain ⟨c, rfl⟩ := h
  rw [Int.mul_ediv_cancel_left _ (by omega), Int.sign_mul, Int.sign_eq_one_of_pos (show (0 : Int) < g by omega), Int.one_mul]
theorem sign_mul' (p q : Rat) : (p * q).num.sign = p.num.sign * q.num.sign := by
  rw [Rat.num_mul, ← Int.sign_mul]
  refine sign_ediv ?_ ?_
  · exact Nat.pos_of_ne_zero fun e => by have := Nat.eq_zero_of_gcd_eq_zero_right e; have := Nat.mul_pos p.den_pos q.den_pos; omega
  · exact Int.ofNat_dvd_left.2 (Nat.gcd_dvd_left ..)
theorem sign_neg' (q : Rat) : (-q).num.sign = -q.num.sign := by rw [Rat.neg_num, Int.sign_neg]
theorem sign_le' (q : Rat) : q.num.sign ≤ 0 ↔ q ≤ 0 := by
  have h1 : q.num.sign ≤ 0 ↔ 0 ≤ (-q).num := by
    rw [Rat.neg_num]
    rcases Int.lt_trichotomy q.num 0 with h | h | h
    · rw [Int.sign_eq_neg_one_of_neg h]; omega
    · rw [h]; simp
    · rw [Int.sign_eq_one_of_pos h]; omega
  rw [h1, Rat.num_nonneg]
  grind
theorem sign_zero' (q : Rat) : q.num.sign = 0 ↔ q = 0 := by rw [Int.sign_eq_zero_iff_zero, Rat.num_eq_zero]
theorem sign_in (x : Int) : -1 ≤ x.sign ∧ x.sign ≤ 1 := by
  rcases Int.lt_trichotomy x 0 with h | h | h
  · rw [Int.sign_eq_neg_one_of_neg h]; omega
  · rw [h]; simp
  · rw [Int.sign_eq_one_of_pos h]; omega
theorem P_NumberOrder (a : List UInt8) (ha : SL a) (b : List UInt8) (hb : SL b) (c : List UInt8) (hc : SL c) (k : List Int) (hk : IL k) (l : List Int) (hl : IL l) (m : List Int) (hm : IL m) : l_NumberOrder a b c k l m = some ((true, ()), ()) := by
  obtain ⟨p, e1, d1⟩ := pick_eq a k
  obtain ⟨q, e2, d2⟩ := pick_eq b l
  obtain ⟨s, e3, d3⟩ := pick_eq c m
  have a1 := D_add p s
  have a2 := D_add q s
  have a3 := D_mul p s
  have a4 := D_mul q s
  have a5 := D_sub p q
  unfold l_NumberOrder
  simp (disch := omega) only [e1, e2, e3, bind_some', Add_t, Mul_t, Sub_t, Cmp_t, Sign_t, txt_beq, awake_eq]
  have f1 : (q - p).num.sign = -(p - q).num.sign := by rw [← sign_neg', show -(p - q) = q - p by grind]
  have f2 : p + s - (q + s) = p - q := by grind
  have f3 : (p * s - q * s).num.sign = (p - q).num.sign * s.num.sign := by rw [← sign_mul', show (p - q) * s = p * s - q * s by grind]
  have g1 := sign_in (p - q).num
  have g2 := sign_in s.num
  have g3 : -1 ≤ (p - q).num.sign * s.num.sign ∧ (p - q).num.sign * s.num.sign ≤ 1 := by rw [← Int.sign_mul]; exact sign_in _
  have f4 : ((p - q).num.sign == 0) = decide (p = q) := by
    rw [show ((p - q).num.sign == 0) = decide ((p - q).num.sign = 0) from rfl]
    exact decide_eq_decide.2 ((sign_zero' _).trans (by constructor <;> intro h <;> grind))
  rw [f1, f2, f3, f4, w64 (x := 0 - -(p - q).num.sign) (by omega), w64 (x := (p - q).num.sign * s.num.sign) (by omega)]
  rw [cond_nf (show (p - q).num.sign = 0 - -(p - q).num.sign by omega), cond_nf rfl, cond_nf rfl]
  simp only [beq_self_eq_true, Bool.not_true, cond_f, cond_t]
  by_cases h1 : (p - q).num.sign ≤ 0
  · rw [cond_dt h1]
    by_cases h2 : (q - s).num.sign ≤ 0
    · rw [cond_dt h2]
      have h3 : ¬ (p - s).num.sign > 0 := by
        rw [sign_le'] at h1 h2
        have : (p - s).num.sign ≤ 0 := (sign_le' _).2 (by grind)
        omega
      rw [cond_df h3]
    · rw [cond_df h2]
  · rw [cond_df h1]
end Go.AM.Num
end
section
set_option linter.unusedSimpArgs false
set_option linter.unusedVariables false
namespace Go.AM.Num

theorem sCmp_txt (p q : Rat) : sCmp (txt p) (txt q) = (p - q).num.sign := by unfold sCmp; rw [rd_txt, rd_txt]
theorem sign_ge' (q : Rat) : 0 ≤ q.num.sign ↔ 0 ≤ q := by
  have h1 := sign_le' (-q)
  rw [sign_neg'] at h1
  constructor
  · intro h
    have := h1.1 (by omega)
    grind
  · intro h
    have := h1.2 (by grind)
    omega
/-- m is as good as q. -/
def Good1 (sg : Int) (m q : Rat) : Prop := 0 ≤ sg * (m - q).num.sign
theorem Good1.trans {sg : Int} (hs : sg = 1 ∨ sg = -1) {a b c : Rat} (h1 : Good1 sg a b) (h2 : Good1 sg b c) : Good1 sg a c := by
  unfold Good1 at *
  rcases hs with rfl | rfl
  · rw [Int.one_mul, sign_ge'] at *
    grind
  · have e : ∀ x : Int, 0 ≤ -1 * x ↔ x ≤ 0 := fun x => by omega
    rw [e, sign_le'] at *
    grind
theorem Good1.refl (sg : Int) (a : Rat) : Good1 sg a a := by
  unfold Good1
  rw [show a - a = 0 by grind]; simp
theorem Good1.pick {sg : Int} (hs : sg = 1 ∨ sg = -1) (q m : Rat) (h : (q - m).num.sign ≠ sg) : Good1 sg m q := by
  unfold Good1
  have := sign_in (q - m).num
  have e : (m - q).num.sign = -(q - m).num.sign := by rw [← sign_neg', show -(q - m) = m - q by grind]
  rw [e]
  rcases hs with rfl | rfl <;> omega
theorem bst_txt {sg : Int} (hs : sg = 1 ∨ sg = -1) (qs : List Rat) (m0 : Rat) : ∃ m, bst sg false (txt m0) (qs.map txt) = txt m ∧ m ∈ m0 :: qs ∧ ∀ q ∈ m0 :: qs, Good1 sg m q := by
  induction qs generalizing m0 with
  | nil => exact ⟨m0, rfl, by simp, fun q hq => by rw [List.mem_singleton.1 hq]; exact .refl _ _⟩
  | cons q qs ih =>
    rw [List.map_cons, bst_cons, rd_txt, sCmp_txt]
    simp only [Option.isSome_some, if_true, Bool.false_eq_true, if_false]
    by_cases h : (q - m0).num.sign = sg
    · rw [if_pos h]
      obtain ⟨m, h1, h2, h3⟩ := ih q
      refine ⟨m, h1, List.mem_cons_of_mem _ h2, fun x hx => ?_⟩
      rcases List.mem_cons.1 hx with rfl | hx
      · have hq : Good1 sg q x := by unfold Good1; rw [h]; rcases hs with rfl | rfl <;> decide
        exact (h3 q (by simp)).trans hs hq
      · exact h3 x hx
    · rw [if_neg h]
      obtain ⟨m, h1, h2, h3⟩ := ih m0
      refine ⟨m, h1, ?_, fun x hx => ?_⟩
      · rcases List.mem_cons.1 h2 with rfl | h2
        · simp
        · exact List.mem_cons_of_mem _ (List.mem_cons_of_mem _ h2)
      · rcases List.mem_cons.1 hx with rfl | hx
        · exact h3 x (by simp)
        · rcases List.mem_cons.1 hx with rfl | hx
          · exact (h3 m0 (by simp)).trans hs (Good1.pick hs x m0 h)
          · exact h3 x (List.mem_cons_of_mem _ hx)
theorem bst_first {sg : Int} (hs : sg = 1 ∨ sg = -1) (q : Rat) (qs : List Rat) : ∃ m, bst sg true [] ((q :: qs).map txt) = txt m ∧ m ∈ q :: qs ∧ ∀ x ∈ q :: qs, Good1 sg m x := by
  rw [List.map_cons, bst_cons, rd_txt]
  simp only [Option.isSome_some, if_true]
  exact bst_txt hs qs q

/-- The numbers drawn, and the same backwards. -/
theorem nl8_eq (l : List (List UInt8)) (c : List Int × Int) (hc : CI c) (hl : l.length ≤ 10) :
    ∃ (qs : List Rat) (c' : List Int × Int) (i : Int), loopO l_NumberLists_s8 (l, false, c, [], [], 0, ()) = some (Ex.exit 0, (l, false, c', qs.map txt, (qs.map txt).reverse, i, ())) ∧ qs.length = l.length ∧ ∀ q ∈ qs, D q ≤ 71 := by
  obtain ⟨r, hr, qs, c', i, rfl, h1, h2⟩ := loopO_ind (step := l_NumberLists_s8) (Q := fun r => ∃ (qs : List Rat) (c' : List Int × Int) (i : Int), r = (Ex.exit 0, (l, false, c', qs.map txt, (qs.map txt).reverse, i, ())) ∧ qs.length = l.length ∧ ∀ q ∈ qs, D q ≤ 71)
    (fun m st => ∃ (qs : List Rat) (c' : List Int × Int), m + qs.length = l.length ∧ st = (l, false, c', qs.map txt, (qs.map txt).reverse, (qs.length : Int), ()) ∧ CI c' ∧ ∀ q ∈ qs, D q ≤ 71) (by
      rintro m st ⟨qs, c1, hm, rfl, hc1, hD⟩
      by_cases hk : qs.length < l.length
      · obtain ⟨q, c2, e1, hc2, hq⟩ := g_number_eq hc1
        have e1' : g_Choices_Number (c1.1, c1.2) = some ((txt q, ()), (c2, ())) := e1
        have e : ((qs.length : Nat) : Int).toNat = qs.length := by omega
        have hx : qs.map txt ++ [txt q] = (qs ++ [q]).map txt := by simp
        have hg : ((qs ++ [q]).map txt).getD qs.length [] = txt q := by
          rw [← hx, List.getD_eq_getElem?_getD]; simp
        have hb : [txt q] ++ (qs.map txt).reverse = ((qs ++ [q]).map txt).reverse := by simp
        have hxl : ((qs ++ [q]).map txt).length = qs.length + 1 := by simp
        have g1 : (qs.map txt).length + ([txt q] : List (List UInt8)).length ≤ maxN := by rw [maxN_eq]; simp; omega
        have g2 : ([txt q] : List (List UInt8)).length + ((qs.map txt).reverse).length ≤ maxN := by rw [maxN_eq]; simp; omega
        refine .inr ⟨m - 1, (l, false, c2, (qs ++ [q]).map txt, ((qs ++ [q]).map txt).reverse, (((qs ++ [q]).length : Nat) : Int), ()), ?_, by omega, qs ++ [q], c2, by simp; omega, rfl, hc2, ?_⟩
        · simp only [l_NumberLists_s8]
          rw [cond_dt (show (qs.length : Int) < (l.length : Int) by omega), e1', bind_some']
          simp only
          rw [grd_dec g1, hx, hxl, grd_and, grd_dec (show (0 : Int) ≤ (qs.length : Int) by omega), grd_dec (show (qs.length : Int) < ((qs.length + 1 : Nat) : Int) by omega), e, grd_dec (show qs.length < qs.length + 1 by omega), hg, w64 (by omega)]
          have hlen : (((qs ++ [q]).length : Nat) : Int) = (qs.length : Int) + 1 := by simp
          rw [hlen]
          by_cases hz : 0 < (qs.map txt).reverse.length
          · rw [cond_dt hz, grd_dec g2, hb]
          · have hq0 : qs = [] := by
              cases qs with
              | nil => rfl
              | cons a b => simp at hz
            subst hq0
            rw [cond_df hz]; rfl
        · intro x hx'
          rcases List.mem_append.1 hx' with h | h
          · exact hD x h
          · rw [List.mem_singleton.1 h]; exact hq
      · refine .inl ⟨(Ex.exit 0, (l, false, c1, qs.map txt, (qs.map txt).reverse, (qs.length : Int), ())), ?_, by simp, qs, c1, _, rfl, by omega, hD⟩
        simp (disch := (first | omega | (simp only [maxN_eq, List.length_append, List.length_cons, List.length_nil, List.length_set, List.length_replicate, List.length_take, List.length_drop]; omega))) only [l_NumberLists_s8, grd_tt, grd_and, grd_dec, grd_ne, cond_dt, cond_df, cond_et, cond_ef, cond_nt, cond_nf, w64, wu64, wu32, wu8, tm, td, bind_some', same_ee, same_er, same_re, same_rr, cond_t, cond_f, Bool.not_true, Bool.not_false]) l.length (l, false, c, [], [], 0, ()) ⟨[], c, by simp, rfl, hc, fun q hq => by simp at hq⟩
  exact ⟨qs, c', i, hr, h1, h2⟩
def fnd (b1 b2 : Bool) : Int := (if b1 then 1 else 0) + (if b2 then 2 else 0)
theorem or1 (b1 b2 : Bool) : orI .i64 (fnd b1 b2) 1 = fnd true b2 := by cases b1 <;> cases b2 <;> rfl
theorem or2 (b1 b2 : Bool) : orI .i64 (fnd b1 b2) 2 = fnd b1 true := by cases b1 <;> cases b2 <;> rfl
theorem nl14_eq (qs : List Rat) (bk : List (List UInt8)) (lo hi : Rat) (hq : ∀ q ∈ qs, D q ≤ 71) (hlo : D lo ≤ 71) (hhi : D hi ≤ 71) (hn : qs.length ≤ 10)
    (h1 : ∀ q ∈ qs, Good1 (-1) lo q) (h2 : ∀ q ∈ qs, Good1 1 hi q) (m1 : lo ∈ qs) (m2 : hi ∈ qs) :
    ∃ i, loopO l_NumberLists_s14 (false, qs.map txt, bk, txt lo, txt hi, 0, 0, ()) = some (Ex.exit 2, (false, qs.map txt, bk, txt lo, txt hi, 3, i, ())) := by
  obtain ⟨r, hr, i, rfl⟩ := loopO_ind (step := l_NumberLists_s14) (Q := fun r => ∃ i, r = (Ex.exit 2, (false, qs.map txt, bk, txt lo, txt hi, 3, i, ())))
    (fun m st => ∃ (k : Nat) (b1 b2 : Bool), m + k = qs.length ∧ st = (false, qs.map txt, bk, txt lo, txt hi, fnd b1 b2, (k : Int), ()) ∧ (lo ∈ qs.take k → b1 = true) ∧ (hi ∈ qs.take k → b2 = true)) (by
      rintro m st ⟨k, b1, b2, hm, rfl, i1, i2⟩
      have hl : (qs.map txt).length = qs.length := by simp
      by_cases hk : k < qs.length
      · have e : (k : Int).toNat = k := by omega
        have hg : (qs.map txt).getD k [] = txt qs[k] := by rw [getD_s (by omega)]; simp
        have hmem := List.getElem_mem hk
        have c1 := Cmp_t (p := lo) (q := qs[k]) (by omega) (by have := hq _ hmem; omega)
        have c2 := Cmp_t (p := hi) (q := qs[k]) (by omega) (by have := hq _ hmem; omega)
        have n1 : ¬ (lo - qs[k]).num.sign > 0 := by have := h1 _ hmem; unfold Good1 at this; omega
        have n2 : ¬ (hi - qs[k]).num.sign < 0 := by have := h2 _ hmem; unfold Good1 at this; omega
        have tk : qs.take (k + 1) = qs.take k ++ [qs[k]] := List.take_succ_eq_append_getElem hk
        by_cases e1 : qs[k] = lo
        · by_cases e2 : qs[k] = hi
          · refine .inr ⟨m - 1, (false, qs.map txt, bk, txt lo, txt hi, fnd true true, ((k + 1 : Nat) : Int), ()), ?_, by omega, k + 1, true, true, by omega, rfl, fun _ => rfl, fun _ => rfl⟩
            simp only [l_NumberLists_s14]
            simp (disch := omega) only [hl, e, hg, cond_dt, grd_and, grd_dec, c1, c2, bind_some', cond_df n1, cond_df n2, txt_beq, decide_eq_true e1, decide_eq_true e2, cond_t, or1, or2, w64]
            rfl
          · refine .inr ⟨m - 1, (false, qs.map txt, bk, txt lo, txt hi, fnd true b2, ((k + 1 : Nat) : Int), ()), ?_, by omega, k + 1, true, b2, by omega, rfl, fun _ => rfl, fun h => ?_⟩
            · simp only [l_NumberLists_s14]
              simp (disch := omega) only [hl, e, hg, cond_dt, grd_and, grd_dec, c1, c2, bind_some', cond_df n1, cond_df n2, txt_beq, decide_eq_true e1, decide_eq_false e2, cond_t, cond_f, or1, or2, w64]
              rfl
            · rw [tk] at h
              rcases List.mem_append.1 h with h | h
              · exact i2 h
              · exact absurd (List.mem_singleton.1 h).symm e2
        · by_cases e2 : qs[k] = hi
          · refine .inr ⟨m - 1, (false, qs.map txt, bk, txt lo, txt hi, fnd b1 true, ((k + 1 : Nat) : Int), ()), ?_, by omega, k + 1, b1, true, by omega, rfl, fun h => ?_, fun _ => rfl⟩
            · simp only [l_NumberLists_s14]
              simp (disch := omega) only [hl, e, hg, cond_dt, grd_and, grd_dec, c1, c2, bind_some', cond_df n1, cond_df n2, txt_beq, decide_eq_false e1, decide_eq_true e2, cond_t, cond_f, or1, or2, w64]
              rfl
            · rw [tk] at h
              rcases List.mem_append.1 h with h | h
              · exact i1 h
              · exact absurd (List.mem_singleton.1 h).symm e1
          · refine .inr ⟨m - 1, (false, qs.map txt, bk, txt lo, txt hi, fnd b1 b2, ((k + 1 : Nat) : Int), ()), ?_, by omega, k + 1, b1, b2, by omega, rfl, fun h => ?_, fun h => ?_⟩
            · simp only [l_NumberLists_s14]
              simp (disch := omega) only [hl, e, hg, cond_dt, grd_and, grd_dec, c1, c2, bind_some', cond_df n1, cond_df n2, txt_beq, decide_eq_false e1, decide_eq_false e2, cond_t, cond_f, or1, or2, w64]
              rfl
            · rw [tk] at h
              rcases List.mem_append.1 h with h | h
              · exact i1 h
              · exact absurd (List.mem_singleton.1 h).symm e1
            · rw [tk] at h
              rcases List.mem_append.1 h with h | h
              · exact i2 h
              · exact absurd (List.mem_singleton.1 h).symm e2
      · rw [List.take_of_length_le (by omega)] at i1 i2
        rw [i1 m1, i2 m2]
        refine .inl ⟨(Ex.exit 2, (false, qs.map txt, bk, txt lo, txt hi, 3, (k : Int), ())), ?_, by simp, (k : Int), rfl⟩
        simp only [l_NumberLists_s14]
        rw [cond_df (by omega)]; rfl) qs.length (false, qs.map txt, bk, txt lo, txt hi, 0, 0, ()) ⟨0, false, false, by omega, rfl, fun h => by simp at h, fun h => by simp at h⟩
  exact ⟨i, hr⟩
theorem P_NumberLists (l : List (List UInt8)) (hl : l.length ≤ maxLen) (k : List Int) (hk : IL k) : l_NumberLists l k = some ((true, ()), ()) := by
  unfold l_NumberLists
  by_cases h1 : (l.length : Int) > 10
  · rw [cond_dt h1, awake_eq]; rfl
  · rw [cond_df h1, short_eq (l := l) (by omega), bind_some']
    by_cases h2 : ∀ s ∈ l, s.length ≤ 50
    · have h2' : ∀ s ∈ l, s.length ≤ 74 := fun s hs => Nat.le_trans (h2 s hs) (by omega)
      obtain ⟨c, ec, hc⟩ := g_new_eq k
      obtain ⟨qs, c', i, e8, hlen, hD⟩ := nl8_eq l c hc (by omega)
      have hx : ∀ s ∈ qs.map txt, s.length ≤ 74 := fun s hs => by
        obtain ⟨q, hq, rfl⟩ := List.mem_map.1 hs
        have := hD q hq
        have := txt_len q
        omega
      have hxr : ∀ s ∈ (qs.map txt).reverse, s.length ≤ 74 := fun s hs => hx s (List.mem_reverse.1 hs)
      have hxl : (qs.map txt).length = qs.length := by simp
      have s1 := n_sum_eq hx (by rw [hxl]; omega)
      have s2 := n_sum_eq hxr (by simp; omega)
      rw [sum_rev] at s2
      have e8' : loopO l_NumberLists_s8 (l, false, (c.1, c.2), [], [], 0, ()) = some (Ex.exit 0, (l, false, c', qs.map txt, (qs.map txt).reverse, i, ())) := e8
      rw [decide_eq_true h2]
      simp only [Bool.not_true, cond_f, n_sum_eq h2' (by omega), r_sum_eq h2' (by omega), n_min_eq h2' (by omega), r_min_eq h2' (by omega), n_max_eq h2' (by omega), r_max_eq h2' (by omega), bind_some', beq_self_eq_true, ec, e8', same_ee, cond_t, n_min_eq hx (by rw [hxl]; omega), n_max_eq hx (by rw [hxl]; omega)]
      cases qs with
      | nil =>
        have e14 : loopO l_NumberLists_s14 (false, ([] : List Rat).map txt, (([] : List Rat).map txt).reverse, bst (-1) true [] (([] : List Rat).map txt), bst 1 true [] (([] : List Rat).map txt), 0, 0, ()) = some (Ex.exit 2, (false, [], [], [], [], 0, 0, ())) := loopO_end rfl (by simp)
        simp only [e14, bind_some', same_ee, cond_t]
        have s1' : n_Sum [] = some ((sumF (([] : List Rat).map txt), ()), ()) := s1
        simp only [s1', bind_some', beq_self_eq_true, cond_t, awake_eq]
        rfl
      | cons q0 qs =>
        obtain ⟨lo, b1, m1, g1⟩ := bst_first (sg := -1) (.inr rfl) q0 qs
        obtain ⟨hi, b2, m2, g2⟩ := bst_first (sg := 1) (.inl rfl) q0 qs
        obtain ⟨i2, e14⟩ := nl14_eq (q0 :: qs) ((q0 :: qs).map txt).reverse lo hi hD (hD _ m1) (hD _ m2) (by omega) g1 g2 m1 m2
        simp only [b1, b2, e14, bind_some', same_ee, cond_t, s1, s2, beq_self_eq_true]
        rw [cond_ef (by simp only [hxl, List.length_cons]; omega)]
        rw [awake_eq]; rfl
    · rw [decide_eq_false h2, awake_eq]; rfl
end Go.AM.Num
end
section
set_option linter.unusedVariables false
namespace Go.Proofs.YtollagkikaapjaaGreatDoor.numberLists
open Go.ChangeShapes Go.WideShapes Go.ChangeAt Go.RowKit Go.AM Go.AM.Num
open Go.ChangeMaps (open_string shut_string)
theorem reads (os : Os) {H : Type} (enc : TypeId × Value → H) : ∃ places, DataW.whole enc Tryz.prog ((laidWorld os).forCall (fun _ _ => 0) ⟨#[], #[.slice none 0 0, .slice none 0 0], []⟩).memory Tryz.f7.params.toList Rows.numberListsSpec.vars false (#[.slice none 0 0, .slice none 0 0] : Array Value).toList 8 = some ([.nil, .nil], [], places) :=
  ⟨[], by kernel_rfl⟩
set_option maxRecDepth 100000 in
theorem lifted (os : Os) (started : os.Started) (H : Type) (enc : TypeId × Value → H) (F : Stop.Interp) :
    ReturnsInHanded {} Tryz.checked os 7 .any ((OpenSpec.ofChange Rows.numberListsSpec).preRow enc Tryz.prog Tryz.f7 Rows.numberListsRow.domain false Rows.numberListsRow.laid) (((OpenSpec.ofChange Rows.numberListsSpec).at F).post enc Tryz.prog Tryz.f7 false true false false) := by
  obtain ⟨places, hx⟩ := reads os enc
  refine returnsInHanded_of_row (C := Tryz.checked) (s := OpenSpec.ofChange Rows.numberListsSpec) Num.own started (by kernel_rfl) Tryz.func7
    (witness_row_atRef (enc := enc) (C := Tryz.checked) false (laidWorld os) #[.slice none 0 0, .slice none 0 0] rfl (laid_var os _) (laid_drop os _) (by kernel_rfl)
      (OpenSpec.preRow_of_cond 8 hx (by kernel_rfl) (fun k hk => by cases hk) (by kernel_rfl) (laid_met os _))) ?_
  intro W base args ds gs before hval0 hW _ _ _ hL hsh _
  have hval : ∀ (j : Nat) t v, Tryz.f7.params[j]? = some t → args[j]? = some v → Value.okWide Tryz.prog W .any base t v := hval0
  have hW' := hW
  obtain ⟨p, q, hA0, hV, rfl, hfz, hnd⟩ := hW
  have hA : DataW.TrodAll enc Tryz.prog W 0 (fun _ => true) true Tryz.f7.params.toList args.toList ds p := hA0
  rw [Tryz.params7] at hA hval
  obtain ⟨v0, vs0, d0, ds0, p0, q0, hargs, rfl, rfl, h0, r0⟩ := trodAll_cons hA
  obtain ⟨v1, vs1, d1, ds1, p1, q1, rfl, rfl, rfl, h1, r1⟩ := trodAll_cons r0
  obtain ⟨rfl, rfl, rfl⟩ := trodAll_nil r1
  obtain rfl : args = #[v0, v1] := by cases args; simp_all
  obtain ⟨rfl, rfl⟩ := trodVars_none hV
  obtain ⟨a0, len0, cap0, rfl⟩ := okWide_slice Tryz.underlying38 (hval 0 38 v0 rfl rfl)
  have k0 := h0
  have lt0 : ∀ x ∈ p0, x.block < W.heap.size := by obtain ⟨m, hm⟩ := k0; exact DataW.trod_lt m _ _ _ hm
  obtain ⟨l0, rfl, hm0, tv0⟩ := strs_tv Tryz.underlying38 Tryz.underlying9 (by kernel_rfl) h0
  obtain ⟨a1, len1, cap1, rfl⟩ := okWide_slice Tryz.underlying22 (hval 1 22 v1 rfl rfl)
  have k1 := h1
  have lt1 : ∀ x ∈ p1, x.block < W.heap.size := by obtain ⟨m, hm⟩ := k1; exact DataW.trod_lt m _ _ _ hm
  obtain ⟨l1, rfl, hm1, hw1, tv1⟩ := ints_tv Tryz.underlying22 Tryz.underlying3 (by kernel_rfl) h1
  clear hA0 hval0
  have hp := P_NumberLists l0 hm0 l1 (il_of hm1 hw1)
  refine (law_calls G_l_NumberLists (fun _ => rfl) (l0, l1, ()) ((true, ()) : tysR [.val .bool]) () hp (fun _ _ _ _ _ h => res_true h) W (gn_of hL hsh) #[.slice a0 l0.length cap0, .slice a1 l1.length cap1] ⟨_, _, rfl, tv0, ⟨_, _, rfl, tv1, rfl⟩⟩).mono fun e W' ⟨he, bel⟩ => ?_
  subst he
  exact ⟨_, rfl, _, _, _, [], _, [], hW', trodAll_mk1 (shut_bool Tryz.underlying4 _), (trodAll_cons_mk (Below.trod laidOut (by kernel_rfl) (of_decide_eq_true (by kernel_rfl)) k0 bel lt0) (trodAll_cons_mk (Below.trod laidOut (by kernel_rfl) (of_decide_eq_true (by kernel_rfl)) k1 bel lt1) trodAll_mk0)), rfl, bel.frame _, fun h => by cases h⟩

theorem said : Rows.NumberListsSaid :=
  OpenClaim.holds_of_cond 7 Tryz.f7 rfl rfl rfl rfl rfl rfl rfl ⟨rfl, rfl, rfl, rfl, rfl⟩ rfl rfl rfl rfl rfl (by kernel_rfl) Tryz.func7 (by kernel_rfl)
    (of_decide_eq_true (by kernel_rfl)) (by unfold Func.isWrapper; first | (rw [if_pos (by decide +kernel)]; kernel_rfl) | (rw [if_neg (by decide +kernel)]; exact ⟨rfl, rfl⟩))
    (fun os started H enc _ F => by rw [OpenClaim.pre_eq_preRow]; exact lifted os started H enc F)

/-- No parameter wants a stand-in; the program's own looks are on. -/
theorem plain (f : FuncId) (fn : Func) (hf : Tryz.pinned.checked.prog.funcNamed "chcsolver/chcsolverlaw01.NumberLists" = some f) (hfn : Tryz.pinned.checked.prog.funcs[f]? = some fn) :
    true = Tryz.pinned.checked.prog.looks [] ∧ ∀ (j : Nat) t, fn.params[j]? = some t → Tryz.pinned.checked.prog.wantsStandIn t = false := by
  obtain rfl : f = 7 := Option.some.inj ((show Tryz.prog.funcNamed "chcsolver/chcsolverlaw01.NumberLists" = some 7 by kernel_rfl).symm.trans hf) |>.symm
  obtain rfl : fn = Tryz.f7 := (Option.some.inj (Tryz.func7.symm.trans hfn)).symm
  refine ⟨by kernel_rfl, fun j t ht => ?_⟩
  rw [Tryz.params7] at ht
  have hm : t ∈ [38, 22] := by simpa using Array.mem_of_getElem? ht
  simp only [List.mem_cons, List.mem_nil_iff, or_false] at hm
  rcases hm with rfl | rfl
  · exact (show Tryz.prog.wantsStandIn 38 = false by kernel_rfl)
  · exact (show Tryz.prog.wantsStandIn 22 = false by kernel_rfl)
end Go.Proofs.YtollagkikaapjaaGreatDoor.numberLists
namespace Go.Proofs.YtollagkikaapjaaGreatDoor
/-- THE CARD of NumberLists. -/
theorem numberLists_holds : Rows.NumberListsCardSaid :=
  Claim7.holds_tied_plain_at .later [] _ _ _ _ numberLists.said (fun _ h => by cases h) (by kernel_rfl) (fun _ h => by cases h) numberLists_row_tie rfl ⟨rfl, rfl⟩ (by kernel_rfl) rfl numberLists.plain (by kernel_rfl)
end Go.Proofs.YtollagkikaapjaaGreatDoor
end
