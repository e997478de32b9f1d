/- What these functions of plain data are in terms of rational numbers. No condition beyond what each statement says. -/
import Derived.Test.YtollagkikaapjaaGreatDoorM1
set_option linter.unusedSimpArgs false
set_option linter.unusedVariables false
section
set_option linter.unusedSimpArgs false
set_option linter.unusedVariables false
namespace Go.AM.Num

/-- The canonical form of a number. -/
def txt (q : Rat) : List UInt8 := (if q.num < 0 then [45] else []) ++ dd q.num.natAbs ++ (if q.den = 1 then [] else 47 :: dd q.den)
/-- A sign, a numerator, a denominator. -/
def sg (neg : Bool) (m : Nat) : Int := if neg then -(m : Int) else m
def tx (neg : Bool) (m d : Nat) : List UInt8 := (if neg = true ∧ m ≠ 0 then [45] else []) ++ dd m ++ (if d = 1 then [] else 47 :: dd d)
theorem sg_natAbs (neg : Bool) (m : Nat) : (sg neg m).natAbs = m := by cases neg <;> simp [sg]
theorem sg_neg_iff (neg : Bool) (m : Nat) : sg neg m < 0 ↔ neg = true ∧ m ≠ 0 := by
  cases neg <;> simp [sg] <;> omega
theorem sg_mul (a b : Bool) (m n : Nat) : sg a m * sg b n = sg (a != b) (m * n) := by
  cases a <;> cases b <;> simp [sg, Int.neg_mul, Int.mul_neg]
theorem sg_self (q : Rat) : sg (decide (q.num < 0)) q.num.natAbs = q.num := by
  unfold sg
  by_cases h : q.num < 0
  · rw [decide_eq_true h]; simp; omega
  · rw [decide_eq_false h]; simp; omega
theorem tx_self (q : Rat) : tx (decide (q.num < 0)) q.num.natAbs q.den = txt q := by
  unfold tx txt
  have : (decide (q.num < 0) = true ∧ q.num.natAbs ≠ 0) ↔ q.num < 0 := ⟨fun h => of_decide_eq_true h.1, fun h => ⟨decide_eq_true h, by omega⟩⟩
  simp only [this]
theorem sg_div (neg : Bool) (m g : Nat) (h : g ∣ m) : sg neg m / (g : Int) = sg neg (m / g) := by
  cases neg with
  | false => simp [sg]
  | true =>
    simp only [sg, if_true]
    rw [Int.neg_ediv_of_dvd (Int.natCast_dvd_natCast.2 h), ← Int.natCast_ediv]
/-- Lowest terms are the canonical form. -/
theorem tx_lowest (neg : Bool) (m d : Nat) (hd : d ≠ 0) : tx neg (m / Nat.gcd m d) (d / Nat.gcd m d) = txt (mkRat (sg neg m) d) := by
  have hn : (mkRat (sg neg m) d).num = sg neg (m / Nat.gcd m d) := by
    rw [Rat.num_mkRat, if_neg hd, sg_natAbs, Nat.gcd_comm d m, sg_div _ _ _ (Nat.gcd_dvd_left m d)]
  have hde : (mkRat (sg neg m) d).den = d / Nat.gcd m d := by
    rw [Rat.den_mkRat, if_neg hd, sg_natAbs, Nat.gcd_comm d m]
  unfold txt tx
  rw [hn, hde, sg_natAbs]
  simp only [sg_neg_iff]
theorem tx_coprime (neg : Bool) (m d : Nat) (hd : d ≠ 0) (hg : Nat.gcd m d = 1) : tx neg m d = txt (mkRat (sg neg m) d) := by
  have := tx_lowest neg m d hd
  rwa [hg, Nat.div_one, Nat.div_one] at this

/-! ### The text determines the number -/
theorem not_47 {n : Nat} : (47 : UInt8) ∉ dd n := fun h => by have := (dd_D n _ h).1; simp at this
theorem not_45 {n : Nat} : (45 : UInt8) ∉ dd n := fun h => by have := (dd_D n _ h).1; simp at this
theorem dd_not45 (n : Nat) (r : List UInt8) (s : List UInt8) : dd n ++ r ≠ 45 :: s := by
  intro h
  cases e : dd n with
  | nil => exact dd_ne n e
  | cons c t =>
    rw [e] at h
    simp only [List.cons_append, List.cons.injEq] at h
    have : (45 : UInt8) ∈ dd n := by rw [e, h.1]; simp
    exact not_45 this
theorem append_47 {a b x y : List UInt8} (ha : (47 : UInt8) ∉ a) (hx : (47 : UInt8) ∉ x) (h : a ++ 47 :: b = x ++ 47 :: y) : a = x ∧ b = y := by
  induction a generalizing x with
  | nil =>
    cases x with
    | nil => simpa using h
    | cons c x => simp only [List.nil_append, List.cons_append, List.cons.injEq] at h; exact absurd (h.1 ▸ List.mem_cons_self) hx
  | cons c a ih =>
    cases x with
    | nil => simp only [List.nil_append, List.cons_append, List.cons.injEq] at h; exact absurd (h.1 ▸ List.mem_cons_self) ha
    | cons e x =>
      simp only [List.cons_append, List.cons.injEq] at h
      obtain ⟨h1, h2⟩ := ih (fun hm => ha (List.mem_cons_of_mem _ hm)) (fun hm => hx (List.mem_cons_of_mem _ hm)) h.2
      exact ⟨by rw [h.1, h1], h2⟩
theorem txt_inj {p q : Rat} (h : txt p = txt q) : p = q := by
  unfold txt at h
  have hs : (p.num < 0 ↔ q.num < 0) := by
    by_cases h1 : p.num < 0 <;> by_cases h2 : q.num < 0
    · simp [h1, h2]
    · rw [if_pos h1, if_neg h2] at h
      simp only [List.nil_append, List.append_assoc, List.cons_append] at h
      exact absurd h.symm (dd_not45 _ _ _)
    · rw [if_neg h1, if_pos h2] at h
      simp only [List.nil_append, List.append_assoc, List.cons_append] at h
      exact absurd h (dd_not45 _ _ _)
    · simp [h1, h2]
  have h' : dd p.num.natAbs ++ (if p.den = 1 then [] else 47 :: dd p.den) = dd q.num.natAbs ++ (if q.den = 1 then [] else 47 :: dd q.den) := by
    by_cases h1 : p.num < 0
    · rw [if_pos h1, if_pos (hs.1 h1)] at h
      simpa using h
    · rw [if_neg h1, if_neg (fun h2 => h1 (hs.2 h2))] at h
      simpa using h
  have key : p.num.natAbs = q.num.natAbs ∧ p.den = q.den := by
    by_cases h1 : p.den = 1 <;> by_cases h2 : q.den = 1
    · rw [if_pos h1, if_pos h2] at h'
      simp only [List.append_nil] at h'
      exact ⟨dd_inj h', by omega⟩
    · rw [if_pos h1, if_neg h2] at h'
      simp only [List.append_nil] at h'
      exact absurd (show (47 : UInt8) ∈ dd p.num.natAbs by rw [h']; simp) not_47
    · rw [if_neg h1, if_pos h2] at h'
      simp only [List.append_nil] at h'
      exact absurd (show (47 : UInt8) ∈ dd q.num.natAbs by rw [← h']; simp) not_47
    · rw [if_neg h1, if_neg h2] at h'
      obtain ⟨e1, e2⟩ := append_47 not_47 not_47 h'
      exact ⟨dd_inj e1, dd_inj e2⟩
  exact Rat.ext (by omega) key.2

open Classical in
/-- The number whose canonical form a is, if it is one. -/
noncomputable def rd (a : List UInt8) : Option Rat := if h : ∃ q, a = txt q then some h.choose else none
theorem rd_txt (q : Rat) : rd (txt q) = some q := by
  have h : ∃ p, txt q = txt p := ⟨q, rfl⟩
  unfold rd
  rw [dif_pos h]
  exact congrArg some (txt_inj h.choose_spec).symm
theorem rd_some {a : List UInt8} {q : Rat} (h : rd a = some q) : a = txt q := by
  unfold rd at h
  split at h
  · rename_i hh
    have := hh.choose_spec
    rw [Option.some.inj h] at this
    exact this
  · cases h
theorem rd_none {a : List UInt8} (h : ∀ q, a ≠ txt q) : rd a = none := by
  cases e : rd a with
  | none => rfl
  | some q => exact absurd (rd_some e) (h q)

/-! ### Digits counted -/
def D (q : Rat) : Nat := (dd q.num.natAbs).length + (dd q.den).length
theorem txt_len (q : Rat) : (txt q).length ≤ D q + 2 := by
  unfold txt D
  simp only [List.length_append]
  have h1 : (if q.num < 0 then [(45 : UInt8)] else []).length ≤ 1 := by split <;> simp
  have h2 : (if q.den = 1 then ([] : List UInt8) else 47 :: dd q.den).length ≤ (dd q.den).length + 1 := by split <;> simp
  omega
theorem D_le (q : Rat) : D q ≤ (txt q).length + 1 := by
  unfold txt D
  simp only [List.length_append]
  by_cases h : q.den = 1
  · rw [if_pos h, h, dd_one]; simp
  · rw [if_neg h]; simp; omega
theorem D_mk (n : Int) (d : Nat) (hd : d ≠ 0) : D (mkRat n d) ≤ (dd n.natAbs).length + (dd d).length := by
  unfold D
  rw [Rat.num_mkRat, Rat.den_mkRat, if_neg hd, if_neg hd]
  have h1 : (n / (d.gcd n.natAbs : Nat)).natAbs ≤ n.natAbs := by
    obtain ⟨k, hk⟩ : ((d.gcd n.natAbs : Nat) : Int) ∣ n := by
      have := Nat.gcd_dvd_right d n.natAbs
      exact Int.ofNat_dvd_left.2 this
    have hg : ((d.gcd n.natAbs : Nat) : Int) ≠ 0 := fun e => hd (Nat.gcd_eq_zero_iff.1 (by exact_mod_cast e)).1
    have e1 : n / (d.gcd n.natAbs : Nat) = k := by
      conv => lhs; lhs; rw [hk]
      exact Int.mul_ediv_cancel_left _ hg
    rw [e1]
    conv => rhs; rw [hk, Int.natAbs_mul]
    exact Nat.le_mul_of_pos_left _ (by omega)
  have h2 := Nat.div_le_self d (d.gcd n.natAbs)
  have := dd_len_mono h1
  have := dd_len_mono h2
  omega
theorem natAbs_add_le (a b : Int) : (a + b).natAbs ≤ a.natAbs + b.natAbs := by omega
theorem D_add (p q : Rat) : D (p + q) ≤ 2 * (D p + D q) + 1 := by
  rw [Rat.add_def']
  refine Nat.le_trans (D_mk _ _ (Nat.mul_ne_zero p.den_nz q.den_nz)) ?_
  have h1 := dd_len_mono (natAbs_add_le (p.num * q.den) (q.num * p.den))
  have h2 := dd_len_add (p.num * q.den).natAbs (q.num * p.den).natAbs
  rw [Int.natAbs_mul, Int.natAbs_mul, Int.natAbs_natCast, Int.natAbs_natCast] at h1 h2
  have h3 := dd_len_mul p.num.natAbs q.den
  have h4 := dd_len_mul q.num.natAbs p.den
  have h5 := dd_len_mul p.den q.den
  unfold D
  omega
theorem D_mul (p q : Rat) : D (p * q) ≤ D p + D q := by
  rw [Rat.mul_def']
  refine Nat.le_trans (D_mk _ _ (Nat.mul_ne_zero p.den_nz q.den_nz)) ?_
  have h1 := dd_len_mul p.num.natAbs q.num.natAbs
  have h5 := dd_len_mul p.den q.den
  rw [Int.natAbs_mul]
  unfold D
  omega
theorem D_neg (q : Rat) : D (-q) = D q := by unfold D; rw [Rat.neg_num, Rat.neg_den, Int.natAbs_neg]
theorem D_inv (q : Rat) : D q⁻¹ ≤ D q := by
  unfold D
  rw [Rat.num_inv, Rat.den_inv]
  by_cases h : q.num = 0
  · rw [if_pos h, h]; simp [dd_zero, dd_one]; have := dd_len_pos q.den; omega
  · rw [if_neg h, Int.natAbs_mul]
    have : (q.num.sign).natAbs = 1 := Int.natAbs_sign_of_ne_zero h
    rw [this, Int.natAbs_natCast, Nat.one_mul]; omega
theorem D_int (n : Int) : D (n : Rat) = (dd n.natAbs).length + 1 := by
  unfold D; rw [Rat.num_intCast, Rat.den_intCast, dd_one]; rfl
theorem limbs_num (q : Rat) : (limbs q.num.natAbs).length ≤ D q := by have := limbs_le_dd q.num.natAbs; unfold D; omega
theorem limbs_den (q : Rat) : (limbs q.den).length ≤ D q := by have := limbs_le_dd q.den; unfold D; omega
end Go.AM.Num
end
section
set_option linter.unusedSimpArgs false
set_option linter.unusedVariables false
namespace Go.AM.Num

theorem cutP_yes (r : List UInt8) (c : UInt8) : strings_CutPrefix (c :: r) [c] = some ((r, true, ()), ()) := by
  simp [strings_CutPrefix, Lib.trimPrefix, Lib.hasPrefix]
theorem cutP_no {s : List UInt8} {c : UInt8} (h : ∀ r, s ≠ c :: r) : strings_CutPrefix s [c] = some ((s, false, ()), ()) := by
  have hp : Lib.hasPrefix s [c] = false := by
    unfold Lib.hasPrefix
    cases s with
    | nil => rfl
    | cons b t =>
      simp only [List.isPrefixOf, Bool.and_true, beq_eq_false_iff_ne, ne_eq]
      rintro rfl
      exact h t rfl
  simp [strings_CutPrefix, Lib.trimPrefix, hp]
theorem index_yes {x y : List UInt8} {c : UInt8} (hx : c ∉ x) : Lib.index (x ++ c :: y) [c] = x.length := by
  induction x with
  | nil => unfold Lib.index; simp [List.isPrefixOf]
  | cons b x ih =>
    have hb : (c == b) = false := by rw [beq_eq_false_iff_ne]; rintro rfl; exact hx List.mem_cons_self
    have := ih fun h => hx (List.mem_cons_of_mem _ h)
    simp only [List.cons_append]
    unfold Lib.index
    simp only [List.isPrefixOf, hb, Bool.false_and, this]
    have h1 : ((x.length : Int) == -1) = false := by rw [beq_eq_false_iff_ne]; omega
    simp [h1]
theorem index_no {s : List UInt8} {c : UInt8} (hs : c ∉ s) : Lib.index s [c] = -1 := by
  induction s with
  | nil => rfl
  | cons b s ih =>
    have hb : (c == b) = false := by rw [beq_eq_false_iff_ne]; rintro rfl; exact hs List.mem_cons_self
    unfold Lib.index
    simp [List.isPrefixOf, hb, ih fun h => hs (List.mem_cons_of_mem _ h)]
theorem cut_yes {x y : List UInt8} {c : UInt8} (hx : c ∉ x) (hl : (x ++ c :: y).length ≤ 1000000000) : strings_Cut (x ++ c :: y) [c] = some ((x, y, true, ()), ()) := by
  unfold strings_Cut
  rw [if_pos (by omega)]
  simp [Lib.cut, index_yes hx]
theorem cut_no {s : List UInt8} {c : UInt8} (hs : c ∉ s) (hl : s.length ≤ 1000000000) : strings_Cut s [c] = some ((s, [], false, ()), ()) := by
  unfold strings_Cut
  rw [if_pos (by omega)]
  simp [Lib.cut, index_no hs]

/-- A list, parted at the first c; or there is none. -/
theorem split_at (c : UInt8) (s : List UInt8) : (∃ x y, s = x ++ c :: y ∧ c ∉ x) ∨ c ∉ s := by
  induction s with
  | nil => exact .inr (by simp)
  | cons b s ih =>
    by_cases h : b = c
    · subst h; exact .inl ⟨[], s, rfl, by simp⟩
    · rcases ih with ⟨x, y, rfl, hx⟩ | hs
      · refine .inl ⟨b :: x, y, rfl, ?_⟩
        intro hm
        rcases List.mem_cons.1 hm with rfl | hm
        · exact h rfl
        · exact hx hm
      · refine .inr ?_
        intro hm
        rcases List.mem_cons.1 hm with rfl | hm
        · exact h rfl
        · exact hs hm

/-! ### Numerals -/
theorem getD_map {s : List UInt8} {k : Nat} (h : k < s.length) : (s.map (fun b => (b.toNat : Int))).getD k 0 = (s[k].toNat : Int) := by
  rw [List.getD_eq_getElem?_getD, List.getElem?_map, List.getElem?_eq_getElem h]; rfl
theorem numeral_loop (s : List UInt8) (hl : s.length ≤ 1000000000) :
    (AllD s ∧ loopO n_numeral_s2 (s, false, s.map (fun b => (b.toNat : Int)), (s.length : Int), 0, ()) = some (Ex.exit 0, (s, false, s.map (fun b => (b.toNat : Int)), (s.length : Int), (s.length : Int), ()))) ∨
    (¬ AllD s ∧ ∃ i, loopO n_numeral_s2 (s, false, s.map (fun b => (b.toNat : Int)), (s.length : Int), 0, ()) = some (Ex.ret, (s, false, s.map (fun b => (b.toNat : Int)), (s.length : Int), i, ()))) := by
  obtain ⟨r, hr, hq⟩ := loopO_ind (step := n_numeral_s2) (Q := fun r => (AllD s ∧ r = (Ex.exit 0, (s, false, s.map (fun b => (b.toNat : Int)), (s.length : Int), (s.length : Int), ()))) ∨ (¬ AllD s ∧ ∃ i, r = (Ex.ret, (s, false, s.map (fun b => (b.toNat : Int)), (s.length : Int), i, ()))))
    (fun m x => ∃ k : Nat, m + k = s.length ∧ x = (s, false, s.map (fun b => (b.toNat : Int)), (s.length : Int), (k : Int), ()) ∧ AllD (s.take k)) (by
      rintro m x ⟨k, hm, rfl, hd⟩
      by_cases hk : k < s.length
      · have hg := getD_map hk
        have e : (k : Int).toNat = k := by omega
        have hml : (s.map (fun b => (b.toNat : Int))).length = s.length := by simp
        have hmem : s[k] ∈ s := List.getElem_mem hk
        by_cases h1 : s[k].toNat < 48
        · refine .inl ⟨_, ?_, ?_, .inr ⟨fun h => ?_, (k : Int), rfl⟩⟩
          · simp (disch := (first | omega | (simp only [maxN_eq, List.length_append, List.length_cons, List.length_nil, List.length_set, List.length_replicate, List.length_take, List.length_drop]; omega))) only [n_numeral_s2, e, hg, hml, grd_tt, grd_and, grd_dec, grd_ne, cond_dt, cond_df, cond_et, cond_ef, cond_nt, cond_nf, w64, wu64, wu32, wu8, tm, td, bind_some', same_ee, same_er, same_re, same_rr, cond_t, cond_f]
          · simp
          · have := (h _ hmem).1; omega
        · by_cases h2 : s[k].toNat > 57
          · refine .inl ⟨_, ?_, ?_, .inr ⟨fun h => ?_, (k : Int), rfl⟩⟩
            · simp (disch := (first | omega | (simp only [maxN_eq, List.length_append, List.length_cons, List.length_nil, List.length_set, List.length_replicate, List.length_take, List.length_drop]; omega))) only [n_numeral_s2, e, hg, hml, grd_tt, grd_and, grd_dec, grd_ne, cond_dt, cond_df, cond_et, cond_ef, cond_nt, cond_nf, w64, wu64, wu32, wu8, tm, td, bind_some', same_ee, same_er, same_re, same_rr, cond_t, cond_f]
            · simp
            · have := (h _ hmem).2; omega
          · refine .inr ⟨m - 1, _, ?_, by omega, k + 1, by omega, rfl, ?_⟩
            · simp (disch := (first | omega | (simp only [maxN_eq, List.length_append, List.length_cons, List.length_nil, List.length_set, List.length_replicate, List.length_take, List.length_drop]; omega))) only [n_numeral_s2, e, hg, hml, grd_tt, grd_and, grd_dec, grd_ne, cond_dt, cond_df, cond_et, cond_ef, cond_nt, cond_nf, w64, wu64, wu32, wu8, tm, td, bind_some', same_ee, same_er, same_re, same_rr, cond_t, cond_f]
              rfl
            · rw [List.take_succ_eq_append_getElem hk]
              refine hd.app fun c hc => ?_
              rw [List.mem_singleton.1 hc]
              exact ⟨by omega, by omega⟩
      · have hks : k = s.length := by omega
        subst hks
        refine .inl ⟨_, ?_, ?_, .inl ⟨by simpa using hd, rfl⟩⟩
        · simp (disch := (first | omega | (simp only [maxN_eq, List.length_append, List.length_cons, List.length_nil, List.length_set, List.length_replicate, List.length_take, List.length_drop]; omega))) only [n_numeral_s2, grd_tt, grd_and, grd_dec, grd_ne, cond_dt, cond_df, cond_et, cond_ef, cond_nt, cond_nf, w64, wu64, wu32, wu8, tm, td, bind_some', same_ee, same_er, same_re, same_rr, cond_t, cond_f]
        · simp) s.length _ ⟨0, by omega, rfl, by simp [AllD]⟩
  rcases hq with ⟨h, rfl⟩ | ⟨h, i, rfl⟩
  · exact .inl ⟨h, hr⟩
  · exact .inr ⟨h, i, hr⟩

theorem beq_of {s t : List UInt8} (h : s = t) : (s == t) = true := by simpa using h
theorem beq_ne {s t : List UInt8} (h : s ≠ t) : (s == t) = false := by simpa using h
theorem numeral_eq (s : List UInt8) (hl : s.length ≤ 1000000000) : n_numeral s = some ((s == dd (dval s), ()), ()) := by
  unfold n_numeral
  have hml : ((s.map (fun b => (b.toNat : Int))).length : Int) = (s.length : Int) := by simp
  rw [hml]
  rcases numeral_loop s hl with ⟨hd, hr⟩ | ⟨hd, i, hr⟩
  · simp (disch := (first | omega | (simp only [maxN_eq, List.length_append, List.length_cons, List.length_nil, List.length_set, List.length_replicate, List.length_take, List.length_drop]; omega))) only [hr, grd_tt, grd_and, grd_dec, grd_ne, cond_dt, cond_df, cond_et, cond_ef, cond_nt, cond_nf, w64, wu64, wu32, wu8, tm, td, bind_some', same_ee, same_er, same_re, same_rr, cond_t, cond_f]
    by_cases h48 : s = [48]
    · subst h48
      rw [beq_of rfl]
      have : ([48] == dd (dval [48])) = true := beq_of (by rw [show dval [48] = 0 from rfl, dd_zero])
      rw [this]; rfl
    · rw [beq_ne h48]
      cases s with
      | nil =>
        have : ([] == dd (dval [])) = false := beq_ne (fun h => dd_ne _ h.symm)
        rw [this]; rfl
      | cons c t =>
        have hne : ((c :: t : List UInt8) == []) = false := rfl
        rw [hne]
        simp only [Bool.not_false, cond_t]
        simp (disch := (first | omega | (simp only [maxN_eq, List.length_append, List.length_cons, List.length_nil, List.length_set, List.length_replicate, List.length_take, List.length_drop]; omega))) only [grd_tt, grd_and, grd_dec, grd_ne, cond_dt, cond_df, cond_et, cond_ef, cond_nt, cond_nf, w64, wu64, wu32, wu8, tm, td, bind_some', same_ee, same_er, same_re, same_rr, cond_t, cond_f]
        by_cases hc : c = 48
        · subst hc
          have : ((48 :: t : List UInt8) == dd (dval (48 :: t))) = false := beq_ne (fun h => by
            by_cases h0 : dval (48 :: t) = 0
            · rw [h0, dd_zero] at h; exact h48 h
            · obtain ⟨c', s', e, _, hne'⟩ := dd_head h0
              rw [e] at h
              simp only [List.cons.injEq] at h
              exact hne' h.1.symm)
          rw [this]; rfl
        · have : ((c :: t : List UInt8) == dd (dval (c :: t))) = true := beq_of (dd_of hd (by simp) (.inr (by simpa using hc)))
          rw [this]
          have hcn : ((c.toNat : Int) != 48) = true := by
            simp only [bne_iff_ne, ne_eq]
            intro e
            exact hc (UInt8.toNat_inj.1 (by show c.toNat = 48; omega))
          show some (((((c :: t).getD 0 0).toNat : Int) != 48, ()), ()) = _
          rw [show ((c :: t : List UInt8).getD 0 0) = c from rfl, hcn]
  · simp (disch := (first | omega | (simp only [maxN_eq, List.length_append, List.length_cons, List.length_nil, List.length_set, List.length_replicate, List.length_take, List.length_drop]; omega))) only [hr, grd_tt, grd_and, grd_dec, grd_ne, cond_dt, cond_df, cond_et, cond_ef, cond_nt, cond_nf, w64, wu64, wu32, wu8, tm, td, bind_some', same_ee, same_er, same_re, same_rr, cond_t, cond_f]
    have : (s == dd (dval s)) = false := beq_ne (fun h => hd (h ▸ dd_D _))
    rw [this]
theorem numeral_dd (n : Nat) (hl : (dd n).length ≤ 1000000000) : n_numeral (dd n) = some ((true, ()), ()) := by
  rw [numeral_eq _ hl, dval_dd, beq_of rfl]
end Go.AM.Num
end
section
set_option linter.unusedSimpArgs false
set_option linter.unusedVariables false
namespace Go.AM.Num

/-- A number as the program keeps it. -/
def rep (q : Rat) : Bool × List Int × List Int := (decide (q.num < 0), limbs q.num.natAbs, limbs q.den)

def sgn (neg : Bool) : List UInt8 := if neg then [45] else []
theorem shape {neg : Bool} {s : List UInt8} {q : Rat} (hs : neg = false → ∀ r, s ≠ 45 :: r) (h : sgn neg ++ s = txt q) : neg = decide (q.num < 0) ∧ s = dd q.num.natAbs ++ (if q.den = 1 then [] else 47 :: dd q.den) := by
  unfold txt sgn at h
  cases neg with
  | true =>
    by_cases hq : q.num < 0
    · rw [if_pos hq] at h
      simp only [if_true, List.singleton_append, List.cons_append, List.append_assoc, List.nil_append, List.cons.injEq, true_and] at h
      exact ⟨(decide_eq_true hq).symm, h⟩
    · rw [if_neg hq] at h
      simp only [if_true, List.singleton_append, List.nil_append] at h
      exact absurd h.symm (dd_not45 _ _ _)
  | false =>
    by_cases hq : q.num < 0
    · rw [if_pos hq] at h
      simp only [Bool.false_eq_true, if_false, List.nil_append, List.cons_append, List.append_assoc] at h
      exact absurd h (hs rfl _)
    · rw [if_neg hq] at h
      simp only [Bool.false_eq_true, if_false, List.nil_append] at h
      exact ⟨(decide_eq_false hq).symm, h⟩
/-- The sign cut off. -/
theorem sign_cut (a : List UInt8) : ∃ neg s, strings_CutPrefix a [45] = some ((s, neg, ()), ()) ∧ a = sgn neg ++ s ∧ (neg = false → ∀ r, s ≠ 45 :: r) := by
  by_cases h : ∃ r, a = 45 :: r
  · obtain ⟨r, rfl⟩ := h
    exact ⟨true, r, cutP_yes r 45, rfl, fun h => by cases h⟩
  · have h' : ∀ r, a ≠ 45 :: r := fun r e => h ⟨r, e⟩
    exact ⟨false, a, cutP_no h', rfl, fun _ => h'⟩
theorem mk_coprime (neg : Bool) (m d : Nat) (hd : d ≠ 0) (hg : Nat.gcd m d = 1) : (mkRat (sg neg m) d).num = sg neg m ∧ (mkRat (sg neg m) d).den = d := by
  rw [Rat.num_mkRat, Rat.den_mkRat, if_neg hd, if_neg hd, sg_natAbs, Nat.gcd_comm d m, hg]
  simp
theorem sgn_tx {neg : Bool} {m d : Nat} (h : neg = true → m ≠ 0) : sgn neg ++ (dd m ++ (if d = 1 then [] else 47 :: dd d)) = tx neg m d := by
  unfold sgn tx
  cases neg with
  | true => simp [h rfl]
  | false => simp
theorem rep_coprime {neg : Bool} {m d : Nat} (hd : d ≠ 0) (hg : Nat.gcd m d = 1) (h : neg = true → m ≠ 0) : rep (mkRat (sg neg m) d) = (neg, limbs m, limbs d) := by
  obtain ⟨h1, h2⟩ := mk_coprime neg m d hd hg
  unfold rep
  rw [h1, h2, sg_natAbs]
  congr 1
  cases neg with
  | true => exact decide_eq_true ((sg_neg_iff _ _).2 ⟨rfl, h rfl⟩)
  | false => exact decide_eq_false (fun e => by simpa using ((sg_neg_iff _ _).1 e).1)

theorem read_spec (a : List UInt8) (hl : a.length ≤ 10000000) :
    ∃ r ok, n_read a = some ((r, ok, ()), ()) ∧ ((ok = true ∧ ∃ q, a = txt q ∧ r = rep q) ∨ (ok = false ∧ ∀ q, a ≠ txt q)) := by
  obtain ⟨neg, s, hcp, ha, hs⟩ := sign_cut a
  have hsl : s.length ≤ 10000000 := by rw [ha, List.length_append] at hl; omega
  have shp : ∀ q, a = txt q → neg = decide (q.num < 0) ∧ s = dd q.num.natAbs ++ (if q.den = 1 then [] else 47 :: dd q.den) := fun q h => shape hs (ha ▸ h)
  have o : ∀ n, n_nat_one (limbs n) = some ((decide (n = 1), ()), ()) := one_eq
  rcases split_at 47 s with ⟨x, y, rfl, hx⟩ | hx
  · have hxl : x.length ≤ 10000000 := by rw [List.length_append] at hsl; omega
    have hyl : y.length ≤ 10000000 := by rw [List.length_append, List.length_cons] at hsl; omega
    have hcut := cut_yes (y := y) hx (by omega)
    have shp' : ∀ q, a = txt q → neg = decide (q.num < 0) ∧ q.den ≠ 1 ∧ x = dd q.num.natAbs ∧ y = dd q.den := by
      intro q h
      obtain ⟨h1, h2⟩ := shp q h
      by_cases hd : q.den = 1
      · rw [if_pos hd, List.append_nil] at h2
        exact absurd (show (47 : UInt8) ∈ dd q.num.natAbs by rw [← h2]; simp) not_47
      · rw [if_neg hd] at h2
        obtain ⟨e1, e2⟩ := append_47 hx not_47 h2
        exact ⟨h1, hd, e1, e2⟩
    by_cases hnx : x = dd (dval x)
    · have hox := beq_of hnx
      by_cases h0 : x = [48]
      · refine ⟨(false, [], []), false, ?_, .inr ⟨rfl, fun q h => ?_⟩⟩
        · unfold n_read
          simp (disch := (first | omega | (simp only [maxN_eq, List.length_append, List.length_cons, List.length_nil, List.length_set, List.length_replicate, List.length_take, List.length_drop]; omega))) only [hcp, hcut, numeral_eq x (by omega), hox, beq_of h0, grd_tt, grd_and, grd_dec, grd_ne, cond_dt, cond_df, cond_et, cond_ef, cond_nt, cond_nf, w64, wu64, wu32, wu8, tm, td, bind_some', same_ee, same_er, same_re, same_rr, cond_t, cond_f, Bool.not_true, Bool.not_false]
          cases neg <;> rfl
        · obtain ⟨_, h2, h3, _⟩ := shp' q h
          have hq0 : q.num.natAbs = 0 := dd_inj (by rw [← h3, h0, dd_zero])
          have : Nat.gcd q.num.natAbs q.den = 1 := q.reduced
          rw [hq0, Nat.gcd_zero_left] at this
          exact h2 this
      · have hno := natOf_eq (s := x) (hnx ▸ dd_D _) (by omega)
        have hm0 : dval x ≠ 0 := fun e => h0 (by rw [hnx, e, dd_zero])
        by_cases hny : y = dd (dval y)
        · by_cases hy0 : y = [48]
          · refine ⟨(false, [], []), false, ?_, .inr ⟨rfl, fun q h => ?_⟩⟩
            · unfold n_read
              simp (disch := (first | omega | (simp only [maxN_eq, List.length_append, List.length_cons, List.length_nil, List.length_set, List.length_replicate, List.length_take, List.length_drop]; omega))) only [hcp, hcut, numeral_eq x (by omega), hox, beq_ne h0, hno, numeral_eq y (by omega), beq_of hny, beq_of hy0, grd_tt, grd_and, grd_dec, grd_ne, cond_dt, cond_df, cond_et, cond_ef, cond_nt, cond_nf, w64, wu64, wu32, wu8, tm, td, bind_some', same_ee, same_er, same_re, same_rr, cond_t, cond_f, Bool.not_true, Bool.not_false]
            · obtain ⟨_, h2, h3, h4⟩ := shp' q h
              exact q.den_nz (dd_inj (by rw [← h4, hy0, dd_zero]))
          · by_cases hy1 : y = [49]
            · refine ⟨(false, [], []), false, ?_, .inr ⟨rfl, fun q h => ?_⟩⟩
              · unfold n_read
                simp (disch := (first | omega | (simp only [maxN_eq, List.length_append, List.length_cons, List.length_nil, List.length_set, List.length_replicate, List.length_take, List.length_drop]; omega))) only [hcp, hcut, numeral_eq x (by omega), hox, beq_ne h0, hno, numeral_eq y (by omega), beq_of hny, beq_ne hy0, beq_of hy1, grd_tt, grd_and, grd_dec, grd_ne, cond_dt, cond_df, cond_et, cond_ef, cond_nt, cond_nf, w64, wu64, wu32, wu8, tm, td, bind_some', same_ee, same_er, same_re, same_rr, cond_t, cond_f, Bool.not_true, Bool.not_false]
              · obtain ⟨_, h2, h3, h4⟩ := shp' q h
                exact h2 (dd_inj (by rw [← h4, hy1, dd_one]))
            · have hno2 := natOf_eq (s := y) (hny ▸ dd_D _) (by omega)
              have hd0 : dval y ≠ 0 := fun e => hy0 (by rw [hny, e, dd_zero])
              have hd1 : dval y ≠ 1 := fun e => hy1 (by rw [hny, e, dd_one])
              have hg := gcd_eq (dval x) (dval y) (Nat.le_trans (limbs_le_dd _) (by rw [← hnx]; omega)) (Nat.le_trans (limbs_le_dd _) (by rw [← hny]; omega))
              refine ⟨(neg, limbs (dval x), limbs (dval y)), decide (Nat.gcd (dval x) (dval y) = 1), ?_, ?_⟩
              · unfold n_read
                simp (disch := (first | omega | (simp only [maxN_eq, List.length_append, List.length_cons, List.length_nil, List.length_set, List.length_replicate, List.length_take, List.length_drop]; omega))) only [hcp, hcut, numeral_eq x (by omega), hox, beq_ne h0, hno, numeral_eq y (by omega), beq_of hny, beq_ne hy0, beq_ne hy1, hno2, hg, o, grd_tt, grd_and, grd_dec, grd_ne, cond_dt, cond_df, cond_et, cond_ef, cond_nt, cond_nf, w64, wu64, wu32, wu8, tm, td, bind_some', same_ee, same_er, same_re, same_rr, cond_t, cond_f, Bool.not_true, Bool.not_false]
              · by_cases hg1 : Nat.gcd (dval x) (dval y) = 1
                · refine .inl ⟨decide_eq_true hg1, mkRat (sg neg (dval x)) (dval y), ?_, (rep_coprime hd0 hg1 (fun _ => hm0)).symm⟩
                  rw [← tx_coprime neg _ _ hd0 hg1, ← sgn_tx (fun _ => hm0), if_neg hd1, ← hnx, ← hny]
                  exact ha
                · refine .inr ⟨decide_eq_false hg1, fun q h => ?_⟩
                  obtain ⟨_, h2, h3, h4⟩ := shp' q h
                  rw [h3, h4, dval_dd, dval_dd] at hg1
                  exact hg1 q.reduced
        · refine ⟨(false, [], []), false, ?_, .inr ⟨rfl, fun q h => ?_⟩⟩
          · unfold n_read
            simp (disch := (first | omega | (simp only [maxN_eq, List.length_append, List.length_cons, List.length_nil, List.length_set, List.length_replicate, List.length_take, List.length_drop]; omega))) only [hcp, hcut, numeral_eq x (by omega), hox, beq_ne h0, hno, numeral_eq y (by omega), beq_ne hny, grd_tt, grd_and, grd_dec, grd_ne, cond_dt, cond_df, cond_et, cond_ef, cond_nt, cond_nf, w64, wu64, wu32, wu8, tm, td, bind_some', same_ee, same_er, same_re, same_rr, cond_t, cond_f, Bool.not_true, Bool.not_false]
          · obtain ⟨_, h2, h3, h4⟩ := shp' q h
            exact hny (by rw [h4, dval_dd])
    · refine ⟨(false, [], []), false, ?_, .inr ⟨rfl, fun q h => ?_⟩⟩
      · unfold n_read
        simp (disch := (first | omega | (simp only [maxN_eq, List.length_append, List.length_cons, List.length_nil, List.length_set, List.length_replicate, List.length_take, List.length_drop]; omega))) only [hcp, hcut, numeral_eq x (by omega), beq_ne hnx, grd_tt, grd_and, grd_dec, grd_ne, cond_dt, cond_df, cond_et, cond_ef, cond_nt, cond_nf, w64, wu64, wu32, wu8, tm, td, bind_some', same_ee, same_er, same_re, same_rr, cond_t, cond_f, Bool.not_true, Bool.not_false]
      · obtain ⟨_, h2, h3, h4⟩ := shp' q h
        exact hnx (by rw [h3, dval_dd])
  · have hcut := cut_no hx (by omega)
    have shp' : ∀ q, a = txt q → neg = decide (q.num < 0) ∧ q.den = 1 ∧ s = dd q.num.natAbs := by
      intro q h
      obtain ⟨h1, h2⟩ := shp q h
      by_cases hd : q.den = 1
      · rw [if_pos hd, List.append_nil] at h2
        exact ⟨h1, hd, h2⟩
      · rw [if_neg hd] at h2
        exact absurd (by rw [h2]; simp) hx
    by_cases hnx : s = dd (dval s)
    · have hox := beq_of hnx
      have hno := natOf_eq (s := s) (hnx ▸ dd_D _) (by omega)
      have fin : (neg = true → dval s ≠ 0) → a = txt (mkRat (sg neg (dval s)) 1) ∧ (neg, limbs (dval s), ([1] : List Int)) = rep (mkRat (sg neg (dval s)) 1) := by
        intro h
        constructor
        · rw [← tx_coprime neg _ _ (by decide) (Nat.gcd_one_right _), ← sgn_tx h]
          simp only [if_true, List.append_nil]
          rw [← hnx]; exact ha
        · rw [rep_coprime (by decide) (Nat.gcd_one_right _) h, limbs_one]
      by_cases h0 : s = [48]
      · cases hneg : neg with
        | true =>
          subst hneg
          refine ⟨(false, [], []), false, ?_, .inr ⟨rfl, fun q h => ?_⟩⟩
          · unfold n_read
            simp (disch := (first | omega | (simp only [maxN_eq, List.length_append, List.length_cons, List.length_nil, List.length_set, List.length_replicate, List.length_take, List.length_drop]; omega))) only [hcp, hcut, numeral_eq s (by omega), hox, beq_of h0, grd_tt, grd_and, grd_dec, grd_ne, cond_dt, cond_df, cond_et, cond_ef, cond_nt, cond_nf, w64, wu64, wu32, wu8, tm, td, bind_some', same_ee, same_er, same_re, same_rr, cond_t, cond_f, Bool.not_true, Bool.not_false]
          · obtain ⟨h1, h2, h3⟩ := shp' q h
            have hq0 : q.num.natAbs = 0 := dd_inj (by rw [← h3, h0, dd_zero])
            have := of_decide_eq_true h1.symm
            omega
        | false =>
          subst hneg
          obtain ⟨f1, f2⟩ := fin (fun h => by cases h)
          refine ⟨_, true, ?_, .inl ⟨rfl, _, f1, f2⟩⟩
          unfold n_read
          simp (disch := (first | omega | (simp only [maxN_eq, List.length_append, List.length_cons, List.length_nil, List.length_set, List.length_replicate, List.length_take, List.length_drop]; omega))) only [hcp, hcut, numeral_eq s (by omega), hox, beq_of h0, hno, grd_tt, grd_and, grd_dec, grd_ne, cond_dt, cond_df, cond_et, cond_ef, cond_nt, cond_nf, w64, wu64, wu32, wu8, tm, td, bind_some', same_ee, same_er, same_re, same_rr, cond_t, cond_f, Bool.not_true, Bool.not_false]
      · have hm0 : dval s ≠ 0 := fun e => h0 (by rw [hnx, e, dd_zero])
        obtain ⟨f1, f2⟩ := fin (fun _ => hm0)
        refine ⟨_, true, ?_, .inl ⟨rfl, _, f1, f2⟩⟩
        unfold n_read
        simp (disch := (first | omega | (simp only [maxN_eq, List.length_append, List.length_cons, List.length_nil, List.length_set, List.length_replicate, List.length_take, List.length_drop]; omega))) only [hcp, hcut, numeral_eq s (by omega), hox, beq_ne h0, hno, grd_tt, grd_and, grd_dec, grd_ne, cond_dt, cond_df, cond_et, cond_ef, cond_nt, cond_nf, w64, wu64, wu32, wu8, tm, td, bind_some', same_ee, same_er, same_re, same_rr, cond_t, cond_f, Bool.not_true, Bool.not_false]
    · refine ⟨(false, [], []), false, ?_, .inr ⟨rfl, fun q h => ?_⟩⟩
      · unfold n_read
        simp (disch := (first | omega | (simp only [maxN_eq, List.length_append, List.length_cons, List.length_nil, List.length_set, List.length_replicate, List.length_take, List.length_drop]; omega))) only [hcp, hcut, numeral_eq s (by omega), beq_ne hnx, grd_tt, grd_and, grd_dec, grd_ne, cond_dt, cond_df, cond_et, cond_ef, cond_nt, cond_nf, w64, wu64, wu32, wu8, tm, td, bind_some', same_ee, same_er, same_re, same_rr, cond_t, cond_f, Bool.not_true, Bool.not_false]
      · obtain ⟨_, h2, h3⟩ := shp' q h
        exact hnx (by rw [h3, dval_dd])
theorem read_txt (q : Rat) (h : D q ≤ 9000000) : n_read (txt q) = some ((rep q, true, ()), ()) := by
  obtain ⟨r, ok, hr, ⟨rfl, p, hp, rfl⟩ | ⟨rfl, hn⟩⟩ := read_spec (txt q) (by have := txt_len q; omega)
  · rw [hr, txt_inj hp]
  · exact absurd rfl (hn q)
theorem read_bad {a : List UInt8} (hl : a.length ≤ 10000000) (h : rd a = none) : ∃ r, n_read a = some ((r, false, ()), ()) := by
  obtain ⟨r, ok, hr, ⟨rfl, p, hp, rfl⟩ | ⟨rfl, hn⟩⟩ := read_spec a hl
  · rw [hp, rd_txt] at h; cases h
  · exact ⟨r, hr⟩
end Go.AM.Num
end
section
set_option linter.unusedSimpArgs false
set_option linter.unusedVariables false
namespace Go.AM.Num

theorem parseUintM_D (M : Nat) (hM : 1000000000000000000 ≤ M) (s : List UInt8) (acc : Nat) (hd : AllD s) (h : acc * 10 ^ s.length + dval s < 1000000000000000000) : Lib.parseUintM M acc s = .ok (acc * 10 ^ s.length + dval s) := by
  induction s generalizing acc with
  | nil => simp [Lib.parseUintM, dval]
  | cons c s ih =>
    have hc := hd c (by simp)
    have hdc : c.toNat - 48 = dig c := rfl
    rw [dval_cons, List.length_cons, Nat.pow_succ] at h ⊢
    have hp : 1 ≤ 10 ^ s.length := Nat.one_le_pow _ _ (by decide)
    have e : acc * (10 ^ s.length * 10) + (dig c * 10 ^ s.length + dval s) = (acc * 10 + dig c) * 10 ^ s.length + dval s := by grind
    rw [e] at h ⊢
    have h1 : (acc * 10 + dig c) * 1 ≤ (acc * 10 + dig c) * 10 ^ s.length := Nat.mul_le_mul_left _ hp
    unfold Lib.parseUintM
    rw [if_pos ⟨hc.1, hc.2⟩, if_neg (by omega), hdc, if_neg (by omega)]
    exact ih (acc * 10 + dig c) (fun x hx => hd x (by simp [hx])) h
theorem parseInt_dd (n : Nat) (h : n < 1000000000) : strconv_ParseInt (dd n) 10 64 = some (((n : Int), false, ()), ()) := by
  have hl : (dd n).length ≤ 9 := dd_lt_len (by simpa using h) (by decide)
  have hm := parseUintM_D (2 ^ 64 - 1) (by decide) (dd n) 0 (dd_D n) (by rw [dval_dd]; omega)
  rw [dval_dd, Nat.zero_mul, Nat.zero_add] at hm
  unfold strconv_ParseInt
  rw [if_pos ⟨rfl, rfl, by omega⟩]
  have : Lib.parseIntB 64 (dd n) = .ok (n : Int) := by
    cases e : dd n with
    | nil => exact absurd e (dd_ne n)
    | cons c r =>
      have hc := dd_D n c (by rw [e]; simp)
      unfold Lib.parseIntB
      have h1 : ¬ (c.toNat = 43 ∨ c.toNat = 45) := by have := hc.1; omega
      have h2 : ¬ c.toNat = 45 := by have := hc.1; omega
      simp only [if_neg h1]
      unfold Lib.parseUintB
      rw [if_neg (by simp), ← e, hm]
      simp [h2]
      omega
  rw [this]

theorem divisor_eq (m n : Nat) : n_divisor (m : Int) (n : Int) = some ((((Nat.gcd m n : Nat) : Int), ()), ()) := by
  obtain ⟨r, hr, b, rfl⟩ := loopO_ind (step := n_divisor_s1) (Q := fun r => ∃ b, r = (Ex.exit 0, (((Nat.gcd m n : Nat) : Int), b, ())))
    (fun k x => ∃ a b : Nat, x = ((a : Int), (b : Int), ()) ∧ k = b ∧ Nat.gcd a b = Nat.gcd m n) (by
      rintro k x ⟨a, b, rfl, rfl, hg⟩
      by_cases h0 : k = 0
      · subst h0
        refine .inl ⟨(Ex.exit 0, ((a : Int), 0, ())), ?_, by simp, 0, ?_⟩
        · simp (disch := (first | omega | (simp only [maxN_eq, List.length_append, List.length_cons, List.length_nil, List.length_set, List.length_replicate, List.length_take, List.length_drop]; omega))) only [n_divisor_s1, grd_tt, grd_and, grd_dec, grd_ne, cond_dt, cond_df, cond_et, cond_ef, cond_nt, cond_nf, w64, wu64, wu32, wu8, tm, td, bind_some', same_ee, same_er, same_re, same_rr, cond_t, cond_f, Bool.not_true, Bool.not_false]
          rfl
        · rw [← hg, Nat.gcd_zero_right]
      · refine .inr ⟨a % k, _, ?_, Nat.mod_lt _ (by omega), k, a % k, rfl, rfl, ?_⟩
        · simp (disch := (first | omega | (simp only [maxN_eq, List.length_append, List.length_cons, List.length_nil, List.length_set, List.length_replicate, List.length_take, List.length_drop]; omega))) only [n_divisor_s1, grd_tt, grd_and, grd_dec, grd_ne, cond_dt, cond_df, cond_et, cond_ef, cond_nt, cond_nf, w64, wu64, wu32, wu8, tm, td, bind_some', same_ee, same_er, same_re, same_rr, cond_t, cond_f, Bool.not_true, Bool.not_false]
          rw [← Int.natCast_emod]
        · rw [Nat.gcd_comm, ← Nat.gcd_rec, Nat.gcd_comm, hg]) n _ ⟨m, n, rfl, rfl, rfl⟩
  unfold n_divisor
  rw [hr]
  simp (disch := (first | omega | (simp only [maxN_eq, List.length_append, List.length_cons, List.length_nil, List.length_set, List.length_replicate, List.length_take, List.length_drop]; omega))) only [grd_tt, grd_and, grd_dec, grd_ne, cond_dt, cond_df, cond_et, cond_ef, cond_nt, cond_nf, w64, wu64, wu32, wu8, tm, td, bind_some', same_ee, same_er, same_re, same_rr, cond_t, cond_f, Bool.not_true, Bool.not_false]

/-- What a small number's reading gives. -/
def IsSmall (a : List UInt8) (r : Int × Int) : Prop := ∃ q, a = txt q ∧ r = (q.num, (q.den : Int)) ∧ q.num.natAbs < 1000000000 ∧ q.den < 1000000000
theorem lt_of_len9 {n : Nat} (h : (dd n).length ≤ 9) : n < 1000000000 := by
  have := dd_len_lt n
  have h2 : 10 ^ (dd n).length ≤ 10 ^ 9 := Nat.pow_le_pow_right (by decide) h
  omega
theorem small_spec (a : List UInt8) (hl : a.length ≤ 10000000) : ∃ r ok, n_smallOf a = some ((r, ok, ()), ()) ∧ (ok = true → IsSmall a r) := by
  obtain ⟨neg, s, hcp, ha, hs⟩ := sign_cut a
  have hsl : s.length ≤ 10000000 := by rw [ha, List.length_append] at hl; omega
  have nope : ∀ (r : Int × Int), n_smallOf a = some ((r, false, ()), ()) → ∃ r ok, n_smallOf a = some ((r, ok, ()), ()) ∧ (ok = true → IsSmall a r) := fun r h => ⟨r, false, h, fun h => by cases h⟩
  rcases split_at 47 s with ⟨x, y, rfl, hx⟩ | hx
  · have hxl : x.length ≤ 10000000 := by rw [List.length_append] at hsl; omega
    have hyl : y.length ≤ 10000000 := by rw [List.length_append, List.length_cons] at hsl; omega
    have hcut := cut_yes (y := y) hx (by omega)
    by_cases h9 : x.length ≤ 9
    · by_cases hy9 : y.length ≤ 9
      · by_cases hnx : x = dd (dval x)
        · have hox := beq_of hnx
          by_cases h0 : x = [48]
          · refine nope (0, 0) ?_
            unfold n_smallOf
            simp (disch := (first | omega | (simp only [maxN_eq, List.length_append, List.length_cons, List.length_nil, List.length_set, List.length_replicate, List.length_take, List.length_drop]; omega))) only [hcp, hcut, numeral_eq x (by omega), hox, beq_of h0, grd_tt, grd_and, grd_dec, grd_ne, cond_dt, cond_df, cond_et, cond_ef, cond_nt, cond_nf, w64, wu64, wu32, wu8, tm, td, bind_some', same_ee, same_er, same_re, same_rr, cond_t, cond_f, Bool.not_true, Bool.not_false]
            cases neg <;> rfl
          · have hm0 : dval x ≠ 0 := fun e => h0 (by rw [hnx, e, dd_zero])
            have hmB : dval x < 1000000000 := lt_of_len9 (by rw [← hnx]; exact h9)
            have hp := parseInt_dd (dval x) hmB
            rw [← hnx] at hp
            by_cases hny : y = dd (dval y)
            · have hdB : dval y < 1000000000 := lt_of_len9 (by rw [← hny]; exact hy9)
              have hpy := parseInt_dd (dval y) hdB
              rw [← hny] at hpy
              by_cases h2 : dval y < 2
              · refine nope (0, 0) ?_
                unfold n_smallOf
                simp (disch := (first | omega | (simp only [maxN_eq, List.length_append, List.length_cons, List.length_nil, List.length_set, List.length_replicate, List.length_take, List.length_drop]; omega))) only [hcp, hcut, numeral_eq x (by omega), hox, beq_ne h0, hp, numeral_eq y (by omega), beq_of hny, hpy, grd_tt, grd_and, grd_dec, grd_ne, cond_dt, cond_df, cond_et, cond_ef, cond_nt, cond_nf, w64, wu64, wu32, wu8, tm, td, bind_some', same_ee, same_er, same_re, same_rr, cond_t, cond_f, Bool.not_true, Bool.not_false]
              · have hdv := divisor_eq (dval x) (dval y)
                by_cases hg : Nat.gcd (dval x) (dval y) = 1
                · have hd0 : dval y ≠ 0 := by omega
                  obtain ⟨e1, e2⟩ := mk_coprime neg (dval x) (dval y) hd0 hg
                  have hsm : IsSmall a (sg neg (dval x), ((dval y : Nat) : Int)) := by
                    refine ⟨mkRat (sg neg (dval x)) (dval y), ?_, by rw [e1, e2], by rw [e1, sg_natAbs]; exact hmB, by rw [e2]; exact hdB⟩
                    rw [← tx_coprime neg _ _ hd0 hg, ← sgn_tx (fun _ => hm0), if_neg (by omega), ← hnx, ← hny]
                    exact ha
                  rw [hg] at hdv
                  cases neg with
                  | true =>
                    refine ⟨_, true, ?_, fun _ => hsm⟩
                    unfold n_smallOf
                    simp (disch := (first | omega | (simp only [maxN_eq, List.length_append, List.length_cons, List.length_nil, List.length_set, List.length_replicate, List.length_take, List.length_drop]; omega))) only [hcp, hcut, numeral_eq x (by omega), hox, beq_ne h0, hp, numeral_eq y (by omega), beq_of hny, hpy, hdv, grd_tt, grd_and, grd_dec, grd_ne, cond_dt, cond_df, cond_et, cond_ef, cond_nt, cond_nf, w64, wu64, wu32, wu8, tm, td, bind_some', same_ee, same_er, same_re, same_rr, cond_t, cond_f, Bool.not_true, Bool.not_false]
                    simp [sg]
                  | false =>
                    refine ⟨_, true, ?_, fun _ => hsm⟩
                    unfold n_smallOf
                    simp (disch := (first | omega | (simp only [maxN_eq, List.length_append, List.length_cons, List.length_nil, List.length_set, List.length_replicate, List.length_take, List.length_drop]; omega))) only [hcp, hcut, numeral_eq x (by omega), hox, beq_ne h0, hp, numeral_eq y (by omega), beq_of hny, hpy, hdv, grd_tt, grd_and, grd_dec, grd_ne, cond_dt, cond_df, cond_et, cond_ef, cond_nt, cond_nf, w64, wu64, wu32, wu8, tm, td, bind_some', same_ee, same_er, same_re, same_rr, cond_t, cond_f, Bool.not_true, Bool.not_false]
                    simp [sg]
                · refine nope (0, 0) ?_
                  unfold n_smallOf
                  simp (disch := (first | omega | (simp only [maxN_eq, List.length_append, List.length_cons, List.length_nil, List.length_set, List.length_replicate, List.length_take, List.length_drop]; omega))) only [hcp, hcut, numeral_eq x (by omega), hox, beq_ne h0, hp, numeral_eq y (by omega), beq_of hny, hpy, hdv, grd_tt, grd_and, grd_dec, grd_ne, cond_dt, cond_df, cond_et, cond_ef, cond_nt, cond_nf, w64, wu64, wu32, wu8, tm, td, bind_some', same_ee, same_er, same_re, same_rr, cond_t, cond_f, Bool.not_true, Bool.not_false]
            · refine nope (0, 0) ?_
              unfold n_smallOf
              simp (disch := (first | omega | (simp only [maxN_eq, List.length_append, List.length_cons, List.length_nil, List.length_set, List.length_replicate, List.length_take, List.length_drop]; omega))) only [hcp, hcut, numeral_eq x (by omega), hox, beq_ne h0, hp, numeral_eq y (by omega), beq_ne hny, grd_tt, grd_and, grd_dec, grd_ne, cond_dt, cond_df, cond_et, cond_ef, cond_nt, cond_nf, w64, wu64, wu32, wu8, tm, td, bind_some', same_ee, same_er, same_re, same_rr, cond_t, cond_f, Bool.not_true, Bool.not_false]
        · refine nope (0, 0) ?_
          unfold n_smallOf
          simp (disch := (first | omega | (simp only [maxN_eq, List.length_append, List.length_cons, List.length_nil, List.length_set, List.length_replicate, List.length_take, List.length_drop]; omega))) only [hcp, hcut, numeral_eq x (by omega), beq_ne hnx, grd_tt, grd_and, grd_dec, grd_ne, cond_dt, cond_df, cond_et, cond_ef, cond_nt, cond_nf, w64, wu64, wu32, wu8, tm, td, bind_some', same_ee, same_er, same_re, same_rr, cond_t, cond_f, Bool.not_true, Bool.not_false]
      · refine nope (0, 0) ?_
        unfold n_smallOf
        simp (disch := (first | omega | (simp only [maxN_eq, List.length_append, List.length_cons, List.length_nil, List.length_set, List.length_replicate, List.length_take, List.length_drop]; omega))) only [hcp, hcut, grd_tt, grd_and, grd_dec, grd_ne, cond_dt, cond_df, cond_et, cond_ef, cond_nt, cond_nf, w64, wu64, wu32, wu8, tm, td, bind_some', same_ee, same_er, same_re, same_rr, cond_t, cond_f, Bool.not_true, Bool.not_false]
    · refine nope (0, 0) ?_
      unfold n_smallOf
      simp (disch := (first | omega | (simp only [maxN_eq, List.length_append, List.length_cons, List.length_nil, List.length_set, List.length_replicate, List.length_take, List.length_drop]; omega))) only [hcp, hcut, grd_tt, grd_and, grd_dec, grd_ne, cond_dt, cond_df, cond_et, cond_ef, cond_nt, cond_nf, w64, wu64, wu32, wu8, tm, td, bind_some', same_ee, same_er, same_re, same_rr, cond_t, cond_f, Bool.not_true, Bool.not_false]
  · have hcut := cut_no hx (by omega)
    have hnil : (([] : List UInt8).length : Int) = 0 := rfl
    by_cases h9 : s.length ≤ 9
    · by_cases hnx : s = dd (dval s)
      · have hox := beq_of hnx
        have hmB : dval s < 1000000000 := lt_of_len9 (by rw [← hnx]; exact h9)
        have hp := parseInt_dd (dval s) hmB
        rw [← hnx] at hp
        have fin : (neg = true → dval s ≠ 0) → IsSmall a (sg neg (dval s), 1) := by
          intro h
          obtain ⟨e1, e2⟩ := mk_coprime neg (dval s) 1 (by decide) (Nat.gcd_one_right _)
          refine ⟨mkRat (sg neg (dval s)) 1, ?_, by rw [e1, e2]; rfl, by rw [e1, sg_natAbs]; exact hmB, by rw [e2]; decide⟩
          rw [← tx_coprime neg _ _ (by decide) (Nat.gcd_one_right _), ← sgn_tx h]
          simp only [if_true, List.append_nil]
          rw [← hnx]; exact ha
        by_cases h0 : s = [48]
        · cases neg with
          | true =>
            refine nope (0, 0) ?_
            unfold n_smallOf
            simp (disch := (first | omega | (simp only [maxN_eq, List.length_append, List.length_cons, List.length_nil, List.length_set, List.length_replicate, List.length_take, List.length_drop]; omega))) only [hcp, hcut, hnil, numeral_eq s (by omega), hox, beq_of h0, grd_tt, grd_and, grd_dec, grd_ne, cond_dt, cond_df, cond_et, cond_ef, cond_nt, cond_nf, w64, wu64, wu32, wu8, tm, td, bind_some', same_ee, same_er, same_re, same_rr, cond_t, cond_f, Bool.not_true, Bool.not_false]
          | false =>
            refine ⟨_, true, ?_, fun _ => fin (fun h => by cases h)⟩
            unfold n_smallOf
            simp (disch := (first | omega | (simp only [maxN_eq, List.length_append, List.length_cons, List.length_nil, List.length_set, List.length_replicate, List.length_take, List.length_drop]; omega))) only [hcp, hcut, hnil, numeral_eq s (by omega), hox, beq_of h0, hp, grd_tt, grd_and, grd_dec, grd_ne, cond_dt, cond_df, cond_et, cond_ef, cond_nt, cond_nf, w64, wu64, wu32, wu8, tm, td, bind_some', same_ee, same_er, same_re, same_rr, cond_t, cond_f, Bool.not_true, Bool.not_false]
            simp [sg]
        · have hm0 : dval s ≠ 0 := fun e => h0 (by rw [hnx, e, dd_zero])
          cases neg with
          | true =>
            refine ⟨_, true, ?_, fun _ => fin (fun _ => hm0)⟩
            unfold n_smallOf
            simp (disch := (first | omega | (simp only [maxN_eq, List.length_append, List.length_cons, List.length_nil, List.length_set, List.length_replicate, List.length_take, List.length_drop]; omega))) only [hcp, hcut, hnil, numeral_eq s (by omega), hox, beq_ne h0, hp, grd_tt, grd_and, grd_dec, grd_ne, cond_dt, cond_df, cond_et, cond_ef, cond_nt, cond_nf, w64, wu64, wu32, wu8, tm, td, bind_some', same_ee, same_er, same_re, same_rr, cond_t, cond_f, Bool.not_true, Bool.not_false]
            simp [sg]
          | false =>
            refine ⟨_, true, ?_, fun _ => fin (fun _ => hm0)⟩
            unfold n_smallOf
            simp (disch := (first | omega | (simp only [maxN_eq, List.length_append, List.length_cons, List.length_nil, List.length_set, List.length_replicate, List.length_take, List.length_drop]; omega))) only [hcp, hcut, hnil, numeral_eq s (by omega), hox, beq_ne h0, hp, grd_tt, grd_and, grd_dec, grd_ne, cond_dt, cond_df, cond_et, cond_ef, cond_nt, cond_nf, w64, wu64, wu32, wu8, tm, td, bind_some', same_ee, same_er, same_re, same_rr, cond_t, cond_f, Bool.not_true, Bool.not_false]
            simp [sg]
      · refine nope (0, 0) ?_
        unfold n_smallOf
        simp (disch := (first | omega | (simp only [maxN_eq, List.length_append, List.length_cons, List.length_nil, List.length_set, List.length_replicate, List.length_take, List.length_drop]; omega))) only [hcp, hcut, hnil, numeral_eq s (by omega), beq_ne hnx, grd_tt, grd_and, grd_dec, grd_ne, cond_dt, cond_df, cond_et, cond_ef, cond_nt, cond_nf, w64, wu64, wu32, wu8, tm, td, bind_some', same_ee, same_er, same_re, same_rr, cond_t, cond_f, Bool.not_true, Bool.not_false]
    · refine nope (0, 0) ?_
      unfold n_smallOf
      simp (disch := (first | omega | (simp only [maxN_eq, List.length_append, List.length_cons, List.length_nil, List.length_set, List.length_replicate, List.length_take, List.length_drop]; omega))) only [hcp, hcut, grd_tt, grd_and, grd_dec, grd_ne, cond_dt, cond_df, cond_et, cond_ef, cond_nt, cond_nf, w64, wu64, wu32, wu8, tm, td, bind_some', same_ee, same_er, same_re, same_rr, cond_t, cond_f, Bool.not_true, Bool.not_false]

/-! ### A fraction of two whole numbers that fit -/
theorem itoa_sg (neg : Bool) (m : Nat) : Lib.itoa (sg neg m) = (if neg = true ∧ m ≠ 0 then [45] else []) ++ dd m := by
  unfold Lib.itoa
  by_cases h : sg neg m < 0
  · rw [if_pos h, if_pos ((sg_neg_iff _ _).1 h), sg_natAbs]; rfl
  · rw [if_neg h, if_neg (fun e => h ((sg_neg_iff _ _).2 e))]
    have : (sg neg m).toNat = m := by have := sg_natAbs neg m; omega
    rw [this]; rfl
theorem in64_of_lt {n : Int} (h : n.natAbs < 9000000000000000000) : in64 n := ⟨by omega, by omega⟩
theorem fmt_eq (neg : Bool) (m : Nat) (h : m < 9000000000000000000) : strconv_FormatInt (sg neg m) 10 = some (((if neg = true ∧ m ≠ 0 then [45] else []) ++ dd m, ()), ()) := by
  unfold strconv_FormatInt
  rw [if_pos ⟨in64_of_lt (by rw [sg_natAbs]; exact h), rfl⟩, itoa_sg]
theorem fmt_nat (m : Nat) (h : m < 9000000000000000000) : strconv_FormatInt (m : Int) 10 = some ((dd m, ()), ()) := by
  have := fmt_eq false m h
  simpa [sg] using this
theorem sg_tdiv (neg : Bool) (m g : Nat) : (sg neg m).tdiv (g : Int) = sg neg (m / g) := by
  cases neg with
  | false => simp only [sg, Bool.false_eq_true, if_false]; rw [Int.tdiv_eq_ediv_of_nonneg (by omega), Int.natCast_ediv]
  | true => simp only [sg, if_true]; rw [Int.neg_tdiv, Int.tdiv_eq_ediv_of_nonneg (by omega), Int.natCast_ediv]
theorem maxA_abs (n : Int) : maxA n (0 - n) = (n.natAbs : Int) := by rw [maxA_def]; split <;> omega
theorem sg_bound (neg : Bool) (m : Nat) : -(m : Int) ≤ sg neg m ∧ sg neg m ≤ m := by cases neg <;> simp [sg] <;> omega
theorem sg_of (n : Int) : n = sg (decide (n < 0)) n.natAbs := by
  unfold sg
  by_cases h : n < 0
  · rw [decide_eq_true h]; simp; omega
  · rw [decide_eq_false h]; simp; omega
theorem maxS_eq : maxS = 1152921504606846976 := rfl
theorem sg_len (p : Prop) [Decidable p] : (if p then [(45 : UInt8)] else []).length ≤ 1 := by split <;> simp
theorem frac_pos (neg : Bool) (m d : Nat) (hd : d ≠ 0) (hm : m < 9000000000000000000) (hdB : d < 9000000000000000000) :
    n_fraction (sg neg m) (d : Int) = some ((txt (mkRat (sg neg m) d), ()), ()) := by
  have hg0 : Nat.gcd m d ≠ 0 := fun e => hd (Nat.gcd_eq_zero_iff.1 e).2
  have hdv := divisor_eq m d
  obtain ⟨b1, b2⟩ := sg_bound neg m
  have hmx : maxA (sg neg m) (0 - sg neg m) = (m : Int) := by rw [maxA_abs, sg_natAbs]
  have hn1 := Nat.div_le_self m (Nat.gcd m d)
  have hn2 := Nat.div_le_self d (Nat.gcd m d)
  obtain ⟨c1, c2⟩ := sg_bound neg (m / Nat.gcd m d)
  have f1 := fmt_eq neg (m / Nat.gcd m d) (by omega)
  have f2 := fmt_nat (d / Nat.gcd m d) (by omega)
  have hdt : ((d : Int)).tdiv ((Nat.gcd m d : Nat) : Int) = ((d / Nat.gcd m d : Nat) : Int) := by rw [Int.tdiv_eq_ediv_of_nonneg (by omega), Int.natCast_ediv]
  have hdt2 : (d : Int) / ((Nat.gcd m d : Nat) : Int) = ((d / Nat.gcd m d : Nat) : Int) := (Int.natCast_ediv _ _).symm
  have hl1 : (dd (m / Nat.gcd m d)).length ≤ 19 := dd_lt_len (by omega) (by decide)
  have hl2 : (dd (d / Nat.gcd m d)).length ≤ 19 := dd_lt_len (by omega) (by decide)
  rw [← tx_lowest neg m d hd]
  unfold tx
  have hnum := sg_tdiv neg m (Nat.gcd m d)
  obtain ⟨pre, hpre⟩ : ∃ pre : List UInt8, pre = (if neg = true ∧ m / Nat.gcd m d ≠ 0 then [45] else []) := ⟨_, rfl⟩
  have hprel : pre.length ≤ 1 := by rw [hpre]; exact sg_len _
  rw [← hpre] at f1 ⊢
  unfold n_fraction
  by_cases h1 : d / Nat.gcd m d = 1
  · rw [if_pos h1]
    rw [h1] at hdt hdt2
    simp (disch := (first | omega | (simp only [maxN_eq, List.length_append, List.length_cons, List.length_nil, List.length_set, List.length_replicate, List.length_take, List.length_drop]; omega))) only [hmx, hdv, hnum, f1, hdt, hdt2, grd_tt, grd_and, grd_dec, grd_ne, cond_dt, cond_df, cond_et, cond_ef, cond_nt, cond_nf, w64, wu64, wu32, wu8, tm, td, bind_some', same_ee, same_er, same_re, same_rr, cond_t, cond_f, Bool.not_true, Bool.not_false]
    simp
  · have hq0 : 0 < d / Nat.gcd m d := Nat.div_pos (Nat.le_of_dvd (by omega) (Nat.gcd_dvd_right m d)) (by omega)
    rw [if_neg h1]
    have g1 : ([47] : List UInt8).length + (dd (d / Nat.gcd m d)).length ≤ maxS := by rw [maxS_eq]; simp; omega
    have g2 : (pre ++ dd (m / Nat.gcd m d)).length + (([47] : List UInt8) ++ dd (d / Nat.gcd m d)).length ≤ maxS := by rw [maxS_eq]; simp; omega
    simp (disch := (first | omega | (simp only [maxN_eq, List.length_append, List.length_cons, List.length_nil, List.length_set, List.length_replicate, List.length_take, List.length_drop]; omega))) only [hmx, hdv, hnum, f1, hdt, hdt2, f2, grd_dec g1, grd_dec g2, grd_tt, grd_and, grd_dec, grd_ne, cond_dt, cond_df, cond_et, cond_ef, cond_nt, cond_nf, w64, wu64, wu32, wu8, tm, td, bind_some', same_ee, same_er, same_re, same_rr, cond_t, cond_f, Bool.not_true, Bool.not_false]
    simp
theorem frac_eq (n d : Int) (hd : d ≠ 0) (hn : n.natAbs < 9000000000000000000) (hdB : d.natAbs < 9000000000000000000) :
    n_fraction n d = some ((txt (Rat.divInt n d), ()), ()) := by
  by_cases h : d < 0
  · have h1 := frac_pos (decide (-n < 0)) n.natAbs d.natAbs (by omega) hn hdB
    have e1 : sg (decide (-n < 0)) n.natAbs = -n := by have := sg_of (-n); rw [Int.natAbs_neg] at this; exact this.symm
    rw [e1] at h1
    have e2 : (d.natAbs : Int) = -d := by omega
    rw [e2] at h1
    have e3 : Rat.divInt n d = mkRat (-n) d.natAbs := by rw [← Rat.neg_divInt_neg, ← e2, Rat.divInt_ofNat]
    rw [e3, ← h1]
    have w1 : IntKind.i64.wrap (0 - n) = 0 - n := w64 (by omega)
    have w2 : IntKind.i64.wrap (0 - d) = 0 - d := w64 (by omega)
    unfold n_fraction
    rw [w1, w2, show (0 : Int) - n = -n by omega, show (0 : Int) - d = -d by omega, cond_dt h, cond_df (by omega)]
  · have h1 := frac_pos (decide (n < 0)) n.natAbs d.natAbs (by omega) hn hdB
    rw [← sg_of n] at h1
    have e2 : (d.natAbs : Int) = d := by omega
    rw [← Rat.divInt_ofNat, e2] at h1
    exact h1
end Go.AM.Num
end
section
set_option linter.unusedSimpArgs false
set_option linter.unusedVariables false
namespace Go.AM.Num

theorem rat_text_eq (neg : Bool) (m d : Nat) (hm : (dd m).length ≤ 100000000) (hd : (dd d).length ≤ 100000000) : n_rat_text (neg, limbs m, limbs d) = some ((tx neg m d, ()), ()) := by
  have tm' := text_eq m (by have := limbs_le_dd m; omega)
  have td' := text_eq d (by have := limbs_le_dd d; omega)
  have o := one_eq d
  have h1 : ([45] : List UInt8).length + (dd m).length ≤ maxS := by rw [maxS_eq]; simp; omega
  have h2 : ([47] : List UInt8).length + (dd d).length ≤ maxS := by rw [maxS_eq]; simp; omega
  have h3 : (([45] : List UInt8) ++ dd m).length + (([47] : List UInt8) ++ dd d).length ≤ maxS := by rw [maxS_eq]; simp; omega
  have h4 : (dd m).length + (([47] : List UInt8) ++ dd d).length ≤ maxS := by rw [maxS_eq]; simp; omega
  have hl0 : ¬ ((limbs 0).length : Int) > 0 := by rw [limbs_zero]; simp
  unfold n_rat_text tx
  cases neg with
  | true =>
    by_cases hm0 : m = 0
    · subst hm0
      by_cases h : d = 1
      · subst h
        simp (disch := (first | omega | (simp only [maxN_eq, List.length_append, List.length_cons, List.length_nil, List.length_set, List.length_replicate, List.length_take, List.length_drop]; omega))) only [tm', td', one_eq 1, cond_df hl0, decide_true, grd_tt, grd_and, grd_dec, grd_ne, cond_dt, cond_df, cond_et, cond_ef, cond_nt, cond_nf, w64, wu64, wu32, wu8, tm, td, bind_some', same_ee, same_er, same_re, same_rr, cond_t, cond_f, Bool.not_true, Bool.not_false]
        simp
      · simp (disch := (first | omega | (simp only [maxN_eq, List.length_append, List.length_cons, List.length_nil, List.length_set, List.length_replicate, List.length_take, List.length_drop]; omega))) only [tm', td', o, cond_df hl0, decide_eq_false h, grd_dec h2, grd_dec h4, grd_tt, grd_and, grd_dec, grd_ne, cond_dt, cond_df, cond_et, cond_ef, cond_nt, cond_nf, w64, wu64, wu32, wu8, tm, td, bind_some', same_ee, same_er, same_re, same_rr, cond_t, cond_f, Bool.not_true, Bool.not_false]
        simp [h]
    · have hl : ((limbs m).length : Int) > 0 := by
        have : (limbs m).length ≠ 0 := fun e => hm0 (limbs_nil.1 (List.eq_nil_of_length_eq_zero e))
        omega
      by_cases h : d = 1
      · subst h
        simp (disch := (first | omega | (simp only [maxN_eq, List.length_append, List.length_cons, List.length_nil, List.length_set, List.length_replicate, List.length_take, List.length_drop]; omega))) only [tm', td', one_eq 1, cond_dt hl, decide_true, grd_dec h1, grd_tt, grd_and, grd_dec, grd_ne, cond_dt, cond_df, cond_et, cond_ef, cond_nt, cond_nf, w64, wu64, wu32, wu8, tm, td, bind_some', same_ee, same_er, same_re, same_rr, cond_t, cond_f, Bool.not_true, Bool.not_false]
        simp [hm0]
      · simp (disch := (first | omega | (simp only [maxN_eq, List.length_append, List.length_cons, List.length_nil, List.length_set, List.length_replicate, List.length_take, List.length_drop]; omega))) only [tm', td', o, cond_dt hl, decide_eq_false h, grd_dec h1, grd_dec h2, grd_dec h3, grd_tt, grd_and, grd_dec, grd_ne, cond_dt, cond_df, cond_et, cond_ef, cond_nt, cond_nf, w64, wu64, wu32, wu8, tm, td, bind_some', same_ee, same_er, same_re, same_rr, cond_t, cond_f, Bool.not_true, Bool.not_false]
        simp [h, hm0]
  | false =>
    by_cases h : d = 1
    · subst h
      simp (disch := (first | omega | (simp only [maxN_eq, List.length_append, List.length_cons, List.length_nil, List.length_set, List.length_replicate, List.length_take, List.length_drop]; omega))) only [tm', td', one_eq 1, decide_true, grd_tt, grd_and, grd_dec, grd_ne, cond_dt, cond_df, cond_et, cond_ef, cond_nt, cond_nf, w64, wu64, wu32, wu8, tm, td, bind_some', same_ee, same_er, same_re, same_rr, cond_t, cond_f, Bool.not_true, Bool.not_false]
      simp
    · simp (disch := (first | omega | (simp only [maxN_eq, List.length_append, List.length_cons, List.length_nil, List.length_set, List.length_replicate, List.length_take, List.length_drop]; omega))) only [tm', td', o, decide_eq_false h, grd_dec h2, grd_dec h4, grd_tt, grd_and, grd_dec, grd_ne, cond_dt, cond_df, cond_et, cond_ef, cond_nt, cond_nf, w64, wu64, wu32, wu8, tm, td, bind_some', same_ee, same_er, same_re, same_rr, cond_t, cond_f, Bool.not_true, Bool.not_false]
      simp [h]

/-- A row of signs and limbs that stands for q. -/
def Is (r : Bool × List Int × List Int) (q : Rat) : Prop := ∃ neg m d, r = (neg, limbs m, limbs d) ∧ tx neg m d = txt q ∧ (dd m).length ≤ 100000000 ∧ (dd d).length ≤ 100000000
theorem Is.text {r : Bool × List Int × List Int} {q : Rat} (h : Is r q) : n_rat_text (r.1, r.2.1, r.2.2) = some ((txt q, ()), ()) := by
  obtain ⟨neg, m, d, rfl, h1, h2, h3⟩ := h
  rw [rat_text_eq neg m d h2 h3, h1]
theorem lowest_is (neg : Bool) (m d : Nat) (hd : d ≠ 0) (hm : (dd m).length ≤ 100000000) (hdl : (dd d).length ≤ 100000000) :
    ∃ r, n_lowest neg (limbs m) (limbs d) = some ((r, ()), ()) ∧ Is r (mkRat (sg neg m) d) :=
  ⟨_, lowest_eq neg m d hd (Nat.le_trans (limbs_le_dd _) hm) (Nat.le_trans (limbs_le_dd _) hdl), neg, _, _, rfl, tx_lowest neg m d hd,
    Nat.le_trans (dd_len_mono (Nat.div_le_self _ _)) hm, Nat.le_trans (dd_len_mono (Nat.div_le_self _ _)) hdl⟩

theorem num_len (q : Rat) : (dd q.num.natAbs).length ≤ D q := by unfold D; omega
theorem den_len (q : Rat) : (dd q.den).length ≤ D q := by unfold D; omega
theorem add_form (p q : Rat) : p + q = mkRat (sg (decide (p.num < 0)) (p.num.natAbs * q.den) + sg (decide (q.num < 0)) (q.num.natAbs * p.den)) (p.den * q.den) := by
  rw [Rat.add_def']
  congr 1
  have h1 := sg_mul (decide (p.num < 0)) false p.num.natAbs q.den
  have h2 := sg_mul (decide (q.num < 0)) false q.num.natAbs p.den
  rw [sg_self] at h1 h2
  simp only [Bool.bne_false] at h1 h2
  rw [← h1, ← h2]; rfl
theorem radd (p q : Rat) (h : D p + D q ≤ 10000000) : ∃ r, n_rat_add (rep p) (rep q) = some ((r, ()), ()) ∧ Is r (p + q) := by
  have a1 := num_len p
  have a2 := den_len p
  have a3 := num_len q
  have a4 := den_len q
  have b1 := dd_len_mul p.num.natAbs q.den
  have b2 := dd_len_mul q.num.natAbs p.den
  have b3 := dd_len_mul p.den q.den
  have b4 := dd_len_add (p.num.natAbs * q.den) (q.num.natAbs * p.den)
  have b5 := dd_len_mono (Nat.sub_le (p.num.natAbs * q.den) (q.num.natAbs * p.den))
  have b6 := dd_len_mono (Nat.sub_le (q.num.natAbs * p.den) (p.num.natAbs * q.den))
  have L := limbs_le_dd
  have m1 := mul_eq p.num.natAbs q.den (by have := L p.num.natAbs; omega) (by have := L q.den; omega)
  have m2 := mul_eq q.num.natAbs p.den (by have := L q.num.natAbs; omega) (by have := L p.den; omega)
  have m3 := mul_eq p.den q.den (by have := L p.den; omega) (by have := L q.den; omega)
  have hd0 : p.den * q.den ≠ 0 := Nat.mul_ne_zero p.den_nz q.den_nz
  obtain ⟨x, hx⟩ : ∃ x, x = p.num.natAbs * q.den := ⟨_, rfl⟩
  obtain ⟨y, hy⟩ : ∃ y, y = q.num.natAbs * p.den := ⟨_, rfl⟩
  have hf := add_form p q
  rw [← hx] at b1 b4 b5 b6 m1 hf
  rw [← hy] at b2 b4 b5 b6 m2 hf
  have Lx := L x
  have Ly := L y
  rw [hf]
  obtain ⟨n1, hn1⟩ : ∃ n, n = decide (p.num < 0) := ⟨_, rfl⟩
  obtain ⟨n2, hn2⟩ : ∃ n, n = decide (q.num < 0) := ⟨_, rfl⟩
  unfold n_rat_add rep
  rw [← hn1, ← hn2]
  by_cases hs : n1 = n2
  · subst hs
    have e : sg n1 x + sg n1 y = sg n1 (x + y) := by cases n1 <;> simp [sg]; omega
    rw [e]
    obtain ⟨r, hr, hi⟩ := lowest_is n1 (x + y) (p.den * q.den) hd0 (by omega) (by omega)
    refine ⟨r, ?_, hi⟩
    simp (disch := (first | omega | (simp only [maxN_eq, List.length_append, List.length_cons, List.length_nil, List.length_set, List.length_replicate, List.length_take, List.length_drop]; omega))) only [m1, m2, m3, add_eq x y (by omega) (by omega), hr, beq_self_eq_true, grd_tt, grd_and, grd_dec, grd_ne, cond_dt, cond_df, cond_et, cond_ef, cond_nt, cond_nf, w64, wu64, wu32, wu8, tm, td, bind_some', same_ee, same_er, same_re, same_rr, cond_t, cond_f, Bool.not_true, Bool.not_false]
  · have hsb : (n1 == n2) = false := by simpa using hs
    obtain ⟨c, hc, hc1, hc2⟩ := cmp_eq x y (by omega) (by omega)
    by_cases hle : y ≤ x
    · have hc0 : c ≥ 0 := by
        rcases Int.lt_or_le c 0 with h | h
        · have := hc1.1 h; omega
        · exact h
      have e : sg n1 x + sg n2 y = sg n1 (x - y) := by cases n1 <;> cases n2 <;> simp_all [sg] <;> omega
      rw [e]
      obtain ⟨r, hr, hi⟩ := lowest_is n1 (x - y) (p.den * q.den) hd0 (by omega) (by omega)
      refine ⟨r, ?_, hi⟩
      simp (disch := (first | omega | (simp only [maxN_eq, List.length_append, List.length_cons, List.length_nil, List.length_set, List.length_replicate, List.length_take, List.length_drop]; omega))) only [m1, m2, m3, hsb, hc, sub_eq x y (by omega) hle, hr, grd_tt, grd_and, grd_dec, grd_ne, cond_dt, cond_df, cond_et, cond_ef, cond_nt, cond_nf, w64, wu64, wu32, wu8, tm, td, bind_some', same_ee, same_er, same_re, same_rr, cond_t, cond_f, Bool.not_true, Bool.not_false]
    · have hc0 : ¬ c ≥ 0 := by have := hc1.2 (by omega); omega
      have e : sg n1 x + sg n2 y = sg n2 (y - x) := by cases n1 <;> cases n2 <;> simp_all [sg] <;> omega
      rw [e]
      obtain ⟨r, hr, hi⟩ := lowest_is n2 (y - x) (p.den * q.den) hd0 (by omega) (by omega)
      refine ⟨r, ?_, hi⟩
      simp (disch := (first | omega | (simp only [maxN_eq, List.length_append, List.length_cons, List.length_nil, List.length_set, List.length_replicate, List.length_take, List.length_drop]; omega))) only [m1, m2, m3, hsb, hc, sub_eq y x (by omega) (by omega), hr, grd_tt, grd_and, grd_dec, grd_ne, cond_dt, cond_df, cond_et, cond_ef, cond_nt, cond_nf, w64, wu64, wu32, wu8, tm, td, bind_some', same_ee, same_er, same_re, same_rr, cond_t, cond_f, Bool.not_true, Bool.not_false]

theorem rmul' (n1 n2 : Bool) (m1 d1 m2 d2 : Nat) (h1 : d1 ≠ 0) (h2 : d2 ≠ 0) (a1 : (dd m1).length ≤ 10000000) (a2 : (dd d1).length ≤ 10000000) (a3 : (dd m2).length ≤ 10000000) (a4 : (dd d2).length ≤ 10000000) :
    ∃ r, n_rat_mul (n1, limbs m1, limbs d1) (n2, limbs m2, limbs d2) = some ((r, ()), ()) ∧ Is r (mkRat (sg n1 m1 * sg n2 m2) (d1 * d2)) := by
  have b1 := dd_len_mul m1 m2
  have b2 := dd_len_mul d1 d2
  have L := limbs_le_dd
  have e1 := mul_eq m1 m2 (by have := L m1; omega) (by have := L m2; omega)
  have e2 := mul_eq d1 d2 (by have := L d1; omega) (by have := L d2; omega)
  obtain ⟨r, hr, hi⟩ := lowest_is (n1 != n2) (m1 * m2) (d1 * d2) (Nat.mul_ne_zero h1 h2) (by omega) (by omega)
  rw [← sg_mul] at hi
  refine ⟨r, ?_, hi⟩
  have e3 : (!(n1 == n2)) = (n1 != n2) := rfl
  unfold n_rat_mul
  simp (disch := (first | omega | (simp only [maxN_eq, List.length_append, List.length_cons, List.length_nil, List.length_set, List.length_replicate, List.length_take, List.length_drop]; omega))) only [e1, e2, e3, hr, grd_tt, grd_and, grd_dec, grd_ne, cond_dt, cond_df, cond_et, cond_ef, cond_nt, cond_nf, w64, wu64, wu32, wu8, tm, td, bind_some', same_ee, same_er, same_re, same_rr, cond_t, cond_f, Bool.not_true, Bool.not_false]
theorem rmul (p q : Rat) (h : D p + D q ≤ 10000000) : ∃ r, n_rat_mul (rep p) (rep q) = some ((r, ()), ()) ∧ Is r (p * q) := by
  have := rmul' (decide (p.num < 0)) (decide (q.num < 0)) p.num.natAbs p.den q.num.natAbs q.den p.den_nz q.den_nz (by have := num_len p; omega) (by have := den_len p; omega) (by have := num_len q; omega) (by have := den_len q; omega)
  rw [sg_self, sg_self, ← Rat.mul_def'] at this
  exact this
/-- A sign, the denominator, the numerator: the inverse. -/
theorem inv_form (q : Rat) (h : q ≠ 0) : q⁻¹ = mkRat (sg (decide (q.num < 0)) q.den) q.num.natAbs := by
  have hn : q.num ≠ 0 := fun e => h (Rat.num_eq_zero.1 e)
  rw [Rat.inv_def]
  by_cases hs : q.num < 0
  · rw [decide_eq_true hs, ← Rat.neg_divInt_neg]
    have e : -q.num = (q.num.natAbs : Int) := by omega
    rw [e, Rat.divInt_ofNat]; rfl
  · rw [decide_eq_false hs]
    have e : q.num = (q.num.natAbs : Int) := by omega
    conv => lhs; rw [e]
    rw [Rat.divInt_ofNat]; rfl
theorem rdiv (p q : Rat) (hq : q ≠ 0) (h : D p + D q ≤ 10000000) : ∃ r, n_rat_mul (rep p) ((rep q).1, (rep q).2.2, (rep q).2.1) = some ((r, ()), ()) ∧ Is r (p / q) := by
  have hn : q.num.natAbs ≠ 0 := fun e => hq (Rat.num_eq_zero.1 (by omega))
  have := rmul' (decide (p.num < 0)) (decide (q.num < 0)) p.num.natAbs p.den q.den q.num.natAbs p.den_nz hn (by have := num_len p; omega) (by have := den_len p; omega) (by have := den_len q; omega) (by have := num_len q; omega)
  rw [← Rat.mkRat_mul_mkRat, ← inv_form q hq, sg_self, Rat.mkRat_self, ← Rat.div_def] at this
  exact this
end Go.AM.Num
end
section
set_option linter.unusedSimpArgs false
set_option linter.unusedVariables false
namespace Go.AM.Num

/-- An operation on canonical forms; nothing where one is none. -/
noncomputable def bin (f : Rat → Rat → List UInt8) (a b : List UInt8) : List UInt8 :=
  match rd a, rd b with
  | some p, some q => f p q
  | _, _ => []
theorem bin_txt (f : Rat → Rat → List UInt8) (p q : Rat) : bin f (txt p) (txt q) = f p q := by unfold bin; rw [rd_txt, rd_txt]
theorem bin_l {f : Rat → Rat → List UInt8} {a b : List UInt8} (h : rd a = none) : bin f a b = [] := by unfold bin; rw [h]
theorem bin_r {f : Rat → Rat → List UInt8} {a b : List UInt8} (h : rd b = none) : bin f a b = [] := by
  unfold bin; rw [h]; cases rd a <;> rfl

theorem D_of_len {q : Rat} {n : Nat} (h : (txt q).length ≤ n) : D q ≤ n + 1 := by have := D_le q; omega
theorem small_bound {z : Int} {a b c : Nat} (h : z.natAbs ≤ a * b + c) : True := trivial
theorem nat_mul_lt {a b : Nat} (ha : a < 1000000000) (hb : b < 1000000000) : a * b ≤ 999999998000000001 := by
  have h1 : a * b ≤ 999999999 * b := Nat.mul_le_mul_right _ (by omega)
  omega

section
variable {a b : List UInt8}
theorem add1_eq (p q : Rat) (h1 : p.num.natAbs < 1000000000) (h2 : p.den < 1000000000) (h3 : q.num.natAbs < 1000000000) (h4 : q.den < 1000000000) :
    n_Add_1 (p.num, (p.den : Int)) (q.num, (q.den : Int)) = some ((txt (p + q), ()), ()) := by
  have e1 := nat_mul_lt h1 h4
  have e2 := nat_mul_lt h3 h2
  have e3 := nat_mul_lt h2 h4
  have f1 : (p.num * q.den).natAbs = p.num.natAbs * q.den := by rw [Int.natAbs_mul, Int.natAbs_natCast]
  have f2 : (q.num * p.den).natAbs = q.num.natAbs * p.den := by rw [Int.natAbs_mul, Int.natAbs_natCast]
  have f3 : ((p.den : Int) * q.den).natAbs = p.den * q.den := by rw [Int.natAbs_mul, Int.natAbs_natCast, Int.natAbs_natCast]
  have hd : p.den * q.den ≠ 0 := Nat.mul_ne_zero p.den_nz q.den_nz
  have hfr := frac_eq (p.num * q.den + q.num * p.den) ((p.den : Int) * q.den) (by omega) (by omega) (by omega)
  rw [← Int.natCast_mul, Rat.divInt_ofNat, ← Rat.add_def', Int.natCast_mul] at hfr
  unfold n_Add_1
  simp (disch := (first | omega | (simp only [maxN_eq, List.length_append, List.length_cons, List.length_nil, List.length_set, List.length_replicate, List.length_take, List.length_drop]; omega))) only [hfr, grd_tt, grd_and, grd_dec, grd_ne, cond_dt, cond_df, cond_et, cond_ef, cond_nt, cond_nf, w64, wu64, wu32, wu8, tm, td, bind_some', same_ee, same_er, same_re, same_rr, cond_t, cond_f, Bool.not_true, Bool.not_false]
theorem mul1_eq (p q : Rat) (h1 : p.num.natAbs < 1000000000) (h2 : p.den < 1000000000) (h3 : q.num.natAbs < 1000000000) (h4 : q.den < 1000000000) :
    n_Mul_1 (p.num, (p.den : Int)) (q.num, (q.den : Int)) = some ((txt (p * q), ()), ()) := by
  have e1 := nat_mul_lt h1 h3
  have e3 := nat_mul_lt h2 h4
  have f1 : (p.num * q.num).natAbs = p.num.natAbs * q.num.natAbs := Int.natAbs_mul _ _
  have f3 : ((p.den : Int) * q.den).natAbs = p.den * q.den := by rw [Int.natAbs_mul, Int.natAbs_natCast, Int.natAbs_natCast]
  have hd : p.den * q.den ≠ 0 := Nat.mul_ne_zero p.den_nz q.den_nz
  have hfr := frac_eq (p.num * q.num) ((p.den : Int) * q.den) (by omega) (by omega) (by omega)
  rw [← Int.natCast_mul, Rat.divInt_ofNat, ← Rat.mul_def', Int.natCast_mul] at hfr
  unfold n_Mul_1
  simp (disch := (first | omega | (simp only [maxN_eq, List.length_append, List.length_cons, List.length_nil, List.length_set, List.length_replicate, List.length_take, List.length_drop]; omega))) only [hfr, grd_tt, grd_and, grd_dec, grd_ne, cond_dt, cond_df, cond_et, cond_ef, cond_nt, cond_nf, w64, wu64, wu32, wu8, tm, td, bind_some', same_ee, same_er, same_re, same_rr, cond_t, cond_f, Bool.not_true, Bool.not_false]
theorem div1_eq (p q : Rat) (hq : q ≠ 0) (h1 : p.num.natAbs < 1000000000) (h2 : p.den < 1000000000) (h3 : q.num.natAbs < 1000000000) (h4 : q.den < 1000000000) :
    n_Div_1 (p.num, (p.den : Int)) (q.num, (q.den : Int)) = some ((txt (p / q), ()), ()) := by
  have hn : q.num ≠ 0 := fun e => hq (Rat.num_eq_zero.1 e)
  have e1 := nat_mul_lt h1 h4
  have e3 := nat_mul_lt h2 h3
  have f1 : (p.num * q.den).natAbs = p.num.natAbs * q.den := by rw [Int.natAbs_mul, Int.natAbs_natCast]
  have f3 : ((p.den : Int) * q.num).natAbs = p.den * q.num.natAbs := by rw [Int.natAbs_mul, Int.natAbs_natCast]
  have hd : (p.den : Int) * q.num ≠ 0 := Int.mul_ne_zero (by have := p.den_nz; omega) hn
  have hfr := frac_eq (p.num * q.den) ((p.den : Int) * q.num) hd (by omega) (by omega)
  have e : Rat.divInt (p.num * q.den) ((p.den : Int) * q.num) = p / q := by
    rw [← Rat.divInt_mul_divInt, Rat.num_divInt_den, Rat.div_def, Rat.inv_def]
  rw [e] at hfr
  unfold n_Div_1
  simp (disch := (first | omega | (simp only [maxN_eq, List.length_append, List.length_cons, List.length_nil, List.length_set, List.length_replicate, List.length_take, List.length_drop]; omega))) only [hfr, grd_tt, grd_and, grd_dec, grd_ne, cond_dt, cond_df, cond_et, cond_ef, cond_nt, cond_nf, w64, wu64, wu32, wu8, tm, td, bind_some', same_ee, same_er, same_re, same_rr, cond_t, cond_f, Bool.not_true, Bool.not_false]

theorem two_gen {f : Rat → Rat → Rat} {F1 : Int × Int → Int × Int → Option ((List UInt8 × Unit) × Unit)} {F2 : Bool × List Int × List Int → Bool × List Int × List Int → Option ((List UInt8 × Unit) × Unit)}
    {two : List UInt8 → List UInt8 → Unit → Unit → Option ((List UInt8 × Unit) × Unit)}
    (htwo : ∀ a b r1 k1 r2 k2, n_smallOf a = some ((r1, k1, ()), ()) → n_smallOf b = some ((r2, k2, ()), ()) →
      (k1 = true → k2 = true → ∀ t, F1 r1 r2 = some ((t, ()), ()) → two a b () () = some ((t, ()), ())) ∧
      ((k1 = false ∨ k2 = false) → ∀ s1 o1 s2 o2, n_read a = some ((s1, o1, ()), ()) → n_read b = some ((s2, o2, ()), ()) →
        ((o1 = false ∨ o2 = false) → two a b () () = some (([], ()), ())) ∧ (o1 = true → o2 = true → ∀ t, F2 s1 s2 = some ((t, ()), ()) → two a b () () = some ((t, ()), ()))))
    (ok : Rat → Prop)
    (h1 : ∀ p q : Rat, ok q → p.num.natAbs < 1000000000 → p.den < 1000000000 → q.num.natAbs < 1000000000 → q.den < 1000000000 → F1 (p.num, (p.den : Int)) (q.num, (q.den : Int)) = some ((txt (f p q), ()), ()))
    (h2 : ∀ p q : Rat, ok q → D p + D q ≤ 10000000 → F2 (rep p) (rep q) = some ((txt (f p q), ()), ()))
    (ha : a.length ≤ 3000000) (hb : b.length ≤ 3000000) (hok : ∀ q, b = txt q → ok q) : two a b () () = some ((bin (fun p q => txt (f p q)) a b, ()), ()) := by
  obtain ⟨r1, k1, e1, s1⟩ := small_spec a (by omega)
  obtain ⟨r2, k2, e2, s2⟩ := small_spec b (by omega)
  obtain ⟨t1, t2⟩ := htwo a b r1 k1 r2 k2 e1 e2
  by_cases hk : k1 = true ∧ k2 = true
  · obtain ⟨p, rfl, rfl, b1, b2⟩ := s1 hk.1
    obtain ⟨q, rfl, rfl, b3, b4⟩ := s2 hk.2
    rw [bin_txt]
    exact t1 hk.1 hk.2 _ (h1 p q (hok q rfl) b1 b2 b3 b4)
  · obtain ⟨r, o1, e3, q1⟩ := read_spec a (by omega)
    obtain ⟨r', o2, e4, q2⟩ := read_spec b (by omega)
    have hk' : k1 = false ∨ k2 = false := by
      rcases Bool.eq_false_or_eq_true k1 with h | h
      · rcases Bool.eq_false_or_eq_true k2 with h' | h'
        · exact absurd ⟨h, h'⟩ hk
        · exact .inr h'
      · exact .inl h
    obtain ⟨u1, u2⟩ := t2 hk' r o1 r' o2 e3 e4
    rcases q1 with ⟨rfl, p, rfl, rfl⟩ | ⟨rfl, hn⟩
    · rcases q2 with ⟨rfl, q, rfl, rfl⟩ | ⟨rfl, hn⟩
      · rw [bin_txt]
        exact u2 rfl rfl _ (h2 p q (hok q rfl) (by have := D_of_len ha; have := D_of_len hb; omega))
      · rw [bin_r (rd_none hn)]
        exact u1 (.inr rfl)
    · rw [bin_l (rd_none hn)]
      exact u1 (.inl rfl)

theorem Add_eq (ha : a.length ≤ 3000000) (hb : b.length ≤ 3000000) : n_Add a b = some ((bin (fun p q => txt (p + q)) a b, ()), ()) := by
  have := two_gen (f := (· + ·)) (F1 := n_Add_1) (F2 := n_Add_2) (two := n_two_a) (a := a) (b := b) (by
    intro a b r1 k1 r2 k2 e1 e2
    constructor
    · rintro rfl rfl t ht
      unfold n_two_a
      simp (disch := (first | omega | (simp only [maxN_eq, List.length_append, List.length_cons, List.length_nil, List.length_set, List.length_replicate, List.length_take, List.length_drop]; omega))) only [e1, e2, ht, grd_tt, grd_and, grd_dec, grd_ne, cond_dt, cond_df, cond_et, cond_ef, cond_nt, cond_nf, w64, wu64, wu32, wu8, tm, td, bind_some', same_ee, same_er, same_re, same_rr, cond_t, cond_f, Bool.not_true, Bool.not_false]
    · intro hk s1 o1 s2 o2 e3 e4
      constructor
      · intro ho
        unfold n_two_a
        cases k1 <;> cases k2 <;> cases o1 <;> cases o2 <;> simp_all [cond]
      · rintro rfl rfl t ht
        unfold n_two_a
        cases k1 <;> cases k2 <;> simp_all [cond]) (fun _ => True) (fun p q _ => add1_eq p q) (fun p q _ h => by
    obtain ⟨r, hr, hi⟩ := radd p q h
    unfold n_Add_2
    simp (disch := (first | omega | (simp only [maxN_eq, List.length_append, List.length_cons, List.length_nil, List.length_set, List.length_replicate, List.length_take, List.length_drop]; omega))) only [hr, hi.text, grd_tt, grd_and, grd_dec, grd_ne, cond_dt, cond_df, cond_et, cond_ef, cond_nt, cond_nf, w64, wu64, wu32, wu8, tm, td, bind_some', same_ee, same_er, same_re, same_rr, cond_t, cond_f, Bool.not_true, Bool.not_false]) ha hb (fun _ _ => trivial)
  unfold n_Add
  rw [this]; rfl
theorem Mul_eq (ha : a.length ≤ 3000000) (hb : b.length ≤ 3000000) : n_Mul a b = some ((bin (fun p q => txt (p * q)) a b, ()), ()) := by
  have := two_gen (f := (· * ·)) (F1 := n_Mul_1) (F2 := n_Mul_2) (two := n_two_m) (a := a) (b := b) (by
    intro a b r1 k1 r2 k2 e1 e2
    constructor
    · rintro rfl rfl t ht
      unfold n_two_m
      simp (disch := (first | omega | (simp only [maxN_eq, List.length_append, List.length_cons, List.length_nil, List.length_set, List.length_replicate, List.length_take, List.length_drop]; omega))) only [e1, e2, ht, grd_tt, grd_and, grd_dec, grd_ne, cond_dt, cond_df, cond_et, cond_ef, cond_nt, cond_nf, w64, wu64, wu32, wu8, tm, td, bind_some', same_ee, same_er, same_re, same_rr, cond_t, cond_f, Bool.not_true, Bool.not_false]
    · intro hk s1 o1 s2 o2 e3 e4
      constructor
      · intro ho
        unfold n_two_m
        cases k1 <;> cases k2 <;> cases o1 <;> cases o2 <;> simp_all [cond]
      · rintro rfl rfl t ht
        unfold n_two_m
        cases k1 <;> cases k2 <;> simp_all [cond]) (fun _ => True) (fun p q _ => mul1_eq p q) (fun p q _ h => by
    obtain ⟨r, hr, hi⟩ := rmul p q h
    unfold n_Mul_2
    simp (disch := (first | omega | (simp only [maxN_eq, List.length_append, List.length_cons, List.length_nil, List.length_set, List.length_replicate, List.length_take, List.length_drop]; omega))) only [hr, hi.text, grd_tt, grd_and, grd_dec, grd_ne, cond_dt, cond_df, cond_et, cond_ef, cond_nt, cond_nf, w64, wu64, wu32, wu8, tm, td, bind_some', same_ee, same_er, same_re, same_rr, cond_t, cond_f, Bool.not_true, Bool.not_false]) ha hb (fun _ _ => trivial)
  unfold n_Mul
  rw [this]; rfl
theorem txt_zero : txt 0 = [48] := by unfold txt; simp [dd_zero]
theorem txt_one : txt 1 = [49] := by unfold txt; simp [dd_one]
/-- Quotients: nothing for the divisor 0. -/
noncomputable def qdiv (p q : Rat) : List UInt8 := if q = 0 then [] else txt (p / q)
theorem Div_eq (ha : a.length ≤ 3000000) (hb : b.length ≤ 3000000) : n_Div a b = some ((bin qdiv a b, ()), ()) := by
  unfold n_Div
  by_cases h0 : b = [48]
  · rw [beq_of h0]
    have : bin qdiv a b = [] := by
      rw [h0, ← txt_zero]
      unfold bin
      rw [rd_txt]
      cases rd a with
      | none => rfl
      | some p => simp [qdiv]
    rw [this]; rfl
  · rw [beq_ne h0]
    have := two_gen (f := (· / ·)) (F1 := n_Div_1) (F2 := n_Div_2) (two := n_two_d) (a := a) (b := b) (by
      intro a b r1 k1 r2 k2 e1 e2
      constructor
      · rintro rfl rfl t ht
        unfold n_two_d
        simp (disch := (first | omega | (simp only [maxN_eq, List.length_append, List.length_cons, List.length_nil, List.length_set, List.length_replicate, List.length_take, List.length_drop]; omega))) only [e1, e2, ht, grd_tt, grd_and, grd_dec, grd_ne, cond_dt, cond_df, cond_et, cond_ef, cond_nt, cond_nf, w64, wu64, wu32, wu8, tm, td, bind_some', same_ee, same_er, same_re, same_rr, cond_t, cond_f, Bool.not_true, Bool.not_false]
      · intro hk s1 o1 s2 o2 e3 e4
        constructor
        · intro ho
          unfold n_two_d
          cases k1 <;> cases k2 <;> cases o1 <;> cases o2 <;> simp_all [cond]
        · rintro rfl rfl t ht
          unfold n_two_d
          cases k1 <;> cases k2 <;> simp_all [cond]) (fun q => q ≠ 0) (fun p q h => div1_eq p q h) (fun p q hq h => by
      obtain ⟨r, hr, hi⟩ := rdiv p q hq h
      unfold n_Div_2
      simp (disch := (first | omega | (simp only [maxN_eq, List.length_append, List.length_cons, List.length_nil, List.length_set, List.length_replicate, List.length_take, List.length_drop]; omega))) only [hr, hi.text, grd_tt, grd_and, grd_dec, grd_ne, cond_dt, cond_df, cond_et, cond_ef, cond_nt, cond_nf, w64, wu64, wu32, wu8, tm, td, bind_some', same_ee, same_er, same_re, same_rr, cond_t, cond_f, Bool.not_true, Bool.not_false]) ha hb (fun q hq e => h0 (by rw [hq, e, txt_zero]))
    rw [cond_f, this]
    have e : bin (fun p q => txt (p / q)) a b = bin qdiv a b := by
      unfold bin
      cases hp : rd a with
      | none => rfl
      | some p =>
        cases hq : rd b with
        | none => rfl
        | some q =>
          have hq0 : q ≠ 0 := fun e => h0 (by rw [rd_some hq, e, txt_zero])
          simp [qdiv, hq0]
    rw [e]; rfl
end

/-! ### Functions of one number -/
theorem valid_eq {a : List UInt8} (ha : a.length ≤ 10000000) : n_Valid a = some (((rd a).isSome, ()), ()) := by
  obtain ⟨r1, k1, e1, s1⟩ := small_spec a ha
  unfold n_Valid
  cases k1 with
  | true =>
    obtain ⟨p, rfl, rfl, b1, b2⟩ := s1 rfl
    simp (disch := (first | omega | (simp only [maxN_eq, List.length_append, List.length_cons, List.length_nil, List.length_set, List.length_replicate, List.length_take, List.length_drop]; omega))) only [e1, grd_tt, grd_and, grd_dec, grd_ne, cond_dt, cond_df, cond_et, cond_ef, cond_nt, cond_nf, w64, wu64, wu32, wu8, tm, td, bind_some', same_ee, same_er, same_re, same_rr, cond_t, cond_f, Bool.not_true, Bool.not_false]
    rw [rd_txt]; rfl
  | false =>
    obtain ⟨r, o1, e3, q1⟩ := read_spec a ha
    rcases q1 with ⟨rfl, p, rfl, rfl⟩ | ⟨rfl, hn⟩
    · simp (disch := (first | omega | (simp only [maxN_eq, List.length_append, List.length_cons, List.length_nil, List.length_set, List.length_replicate, List.length_take, List.length_drop]; omega))) only [e1, e3, grd_tt, grd_and, grd_dec, grd_ne, cond_dt, cond_df, cond_et, cond_ef, cond_nt, cond_nf, w64, wu64, wu32, wu8, tm, td, bind_some', same_ee, same_er, same_re, same_rr, cond_t, cond_f, Bool.not_true, Bool.not_false]
      rw [rd_txt]; rfl
    · simp (disch := (first | omega | (simp only [maxN_eq, List.length_append, List.length_cons, List.length_nil, List.length_set, List.length_replicate, List.length_take, List.length_drop]; omega))) only [e1, e3, grd_tt, grd_and, grd_dec, grd_ne, cond_dt, cond_df, cond_et, cond_ef, cond_nt, cond_nf, w64, wu64, wu32, wu8, tm, td, bind_some', same_ee, same_er, same_re, same_rr, cond_t, cond_f, Bool.not_true, Bool.not_false]
      rw [rd_none hn]; rfl
noncomputable def sSign (a : List UInt8) : Int := match rd a with | some q => q.num.sign | none => 0
theorem txt_head (q : Rat) : (q.num < 0 → ∃ s, txt q = 45 :: s) ∧ (0 < q.num → ∃ c s, txt q = c :: s ∧ c ≠ 45) := by
  unfold txt
  constructor
  · intro h; rw [if_pos h]; exact ⟨_, rfl⟩
  · intro h
    rw [if_neg (by omega)]
    obtain ⟨c, s, e, hc, _⟩ := dd_head (n := q.num.natAbs) (by omega)
    refine ⟨c, _, by rw [e]; rfl, ?_⟩
    rintro rfl
    have := hc.1; simp at this
theorem txt_eq_zero {q : Rat} : txt q = [48] ↔ q = 0 := by
  constructor
  · intro h; rw [← txt_zero] at h; exact txt_inj h
  · rintro rfl; exact txt_zero
theorem sign_eq {a : List UInt8} (ha : a.length ≤ 10000000) : n_Sign a = some ((sSign a, ()), ()) := by
  have hv := valid_eq ha
  unfold n_Sign sSign
  cases hr : rd a with
  | none => rw [hr] at hv; simp (disch := (first | omega | (simp only [maxN_eq, List.length_append, List.length_cons, List.length_nil, List.length_set, List.length_replicate, List.length_take, List.length_drop]; omega))) only [hv, Option.isSome_none, grd_tt, grd_and, grd_dec, grd_ne, cond_dt, cond_df, cond_et, cond_ef, cond_nt, cond_nf, w64, wu64, wu32, wu8, tm, td, bind_some', same_ee, same_er, same_re, same_rr, cond_t, cond_f, Bool.not_true, Bool.not_false]
  | some q =>
    rw [hr] at hv
    have hq := rd_some hr
    rcases Int.lt_trichotomy q.num 0 with h | h | h
    · obtain ⟨s, e⟩ := (txt_head q).1 h
      have hne : a ≠ [48] := by rw [hq, e]; simp
      have e2 : ((a.getD 0 0).toNat : Int) = 45 := by rw [hq, e]; rfl
      have hal : 0 < a.length := by rw [hq, e]; simp
      have h00 : ((0 : Int)).toNat = 0 := rfl
      simp (disch := (first | omega | (simp only [maxN_eq, List.length_append, List.length_cons, List.length_nil, List.length_set, List.length_replicate, List.length_take, List.length_drop]; omega))) only [hv, Option.isSome_some, beq_ne hne, h00, e2, grd_tt, grd_and, grd_dec, grd_ne, cond_dt, cond_df, cond_et, cond_ef, cond_nt, cond_nf, w64, wu64, wu32, wu8, tm, td, bind_some', same_ee, same_er, same_re, same_rr, cond_t, cond_f, Bool.not_true, Bool.not_false]
      rw [Int.sign_eq_neg_one_of_neg h]
    · have hz : a = [48] := by rw [hq]; exact txt_eq_zero.2 (Rat.num_eq_zero.1 h)
      simp (disch := (first | omega | (simp only [maxN_eq, List.length_append, List.length_cons, List.length_nil, List.length_set, List.length_replicate, List.length_take, List.length_drop]; omega))) only [hv, Option.isSome_some, beq_of hz, grd_tt, grd_and, grd_dec, grd_ne, cond_dt, cond_df, cond_et, cond_ef, cond_nt, cond_nf, w64, wu64, wu32, wu8, tm, td, bind_some', same_ee, same_er, same_re, same_rr, cond_t, cond_f, Bool.not_true, Bool.not_false]
      rw [h]; rfl
    · obtain ⟨c, s, e, hc⟩ := (txt_head q).2 h
      have hne : a ≠ [48] := fun e0 => by
        rw [hq, txt_eq_zero] at e0; rw [e0] at h; simp at h
      have e2 : ((a.getD 0 0).toNat : Int) ≠ 45 := by
        rw [hq, e]
        show ((c.toNat : Nat) : Int) ≠ 45
        intro h45
        exact hc (UInt8.toNat_inj.1 (by show c.toNat = 45; omega))
      have hal : 0 < a.length := by rw [hq, e]; simp
      have h00 : ((0 : Int)).toNat = 0 := rfl
      simp (disch := (first | omega | (simp only [maxN_eq, List.length_append, List.length_cons, List.length_nil, List.length_set, List.length_replicate, List.length_take, List.length_drop]; omega))) only [hv, Option.isSome_some, beq_ne hne, h00, cond_ef e2, grd_tt, grd_and, grd_dec, grd_ne, cond_dt, cond_df, cond_et, cond_ef, cond_nt, cond_nf, w64, wu64, wu32, wu8, tm, td, bind_some', same_ee, same_er, same_re, same_rr, cond_t, cond_f, Bool.not_true, Bool.not_false]
      rw [Int.sign_eq_one_of_pos h]
/-- A function of one number. -/
noncomputable def un (f : Rat → List UInt8) (a : List UInt8) : List UInt8 := match rd a with | some q => f q | none => []
theorem un_txt (f : Rat → List UInt8) (q : Rat) : un f (txt q) = f q := by unfold un; rw [rd_txt]
theorem un_none {f : Rat → List UInt8} {a : List UInt8} (h : rd a = none) : un f a = [] := by unfold un; rw [h]
theorem txt_neg_of_neg {q : Rat} (h : q.num < 0) : txt q = 45 :: txt (-q) := by
  unfold txt
  rw [if_pos h, Rat.neg_num, Rat.neg_den, if_neg (show ¬ (-q.num < 0) by omega), Int.natAbs_neg]; rfl
theorem rd_nil : rd [] = none := rd_none fun q h => by
  unfold txt at h
  have := dd_ne q.num.natAbs
  simp at h
  exact this h.2.1
theorem neg_eq {a : List UInt8} (ha : a.length ≤ 10000000) : n_Neg a = some ((un (fun q => txt (-q)) a, ()), ()) := by
  have hs := sign_eq ha
  unfold n_Neg
  cases hr : rd a with
  | none =>
    have hne : a ≠ [48] := fun e => by rw [e, ← txt_zero, rd_txt] at hr; cases hr
    have e : sSign a = 0 := by unfold sSign; rw [hr]
    rw [e] at hs
    rw [un_none hr]
    simp (disch := (first | omega | (simp only [maxN_eq, List.length_append, List.length_cons, List.length_nil, List.length_set, List.length_replicate, List.length_take, List.length_drop]; omega))) only [hs, beq_ne hne, grd_tt, grd_and, grd_dec, grd_ne, cond_dt, cond_df, cond_et, cond_ef, cond_nt, cond_nf, w64, wu64, wu32, wu8, tm, td, bind_some', same_ee, same_er, same_re, same_rr, cond_t, cond_f, Bool.not_true, Bool.not_false]
  | some q =>
    have hq := rd_some hr
    have e : sSign a = q.num.sign := by unfold sSign; rw [hr]
    rw [e] at hs
    have hu : un (fun q => txt (-q)) a = txt (-q) := by rw [hq, un_txt]
    rw [hu]
    rcases Int.lt_trichotomy q.num 0 with h | h | h
    · rw [Int.sign_eq_neg_one_of_neg h] at hs
      have ht := txt_neg_of_neg h
      have hal : 1 ≤ a.length := by rw [hq, ht]; simp
      have h11 : ((1 : Int)).toNat = 1 := rfl
      simp (disch := (first | omega | (simp only [maxN_eq, List.length_append, List.length_cons, List.length_nil, List.length_set, List.length_replicate, List.length_take, List.length_drop]; omega))) only [hs, h11, grd_tt, grd_and, grd_dec, grd_ne, cond_dt, cond_df, cond_et, cond_ef, cond_nt, cond_nf, w64, wu64, wu32, wu8, tm, td, bind_some', same_ee, same_er, same_re, same_rr, cond_t, cond_f, Bool.not_true, Bool.not_false]
      rw [hq, ht]; rfl
    · have hq0 : q = 0 := Rat.num_eq_zero.1 h
      have hz : a = [48] := by rw [hq]; exact txt_eq_zero.2 hq0
      rw [h, Int.sign_zero] at hs
      simp (disch := (first | omega | (simp only [maxN_eq, List.length_append, List.length_cons, List.length_nil, List.length_set, List.length_replicate, List.length_take, List.length_drop]; omega))) only [hs, beq_of hz, grd_tt, grd_and, grd_dec, grd_ne, cond_dt, cond_df, cond_et, cond_ef, cond_nt, cond_nf, w64, wu64, wu32, wu8, tm, td, bind_some', same_ee, same_er, same_re, same_rr, cond_t, cond_f, Bool.not_true, Bool.not_false]
      rw [hz, hq0, Rat.neg_zero, txt_zero]
    · rw [Int.sign_eq_one_of_pos h] at hs
      have ht := txt_neg_of_neg (q := -q) (by rw [Rat.neg_num]; omega)
      rw [Rat.neg_neg] at ht
      have g : ([45] : List UInt8).length + a.length ≤ maxS := by rw [maxS_eq]; simp; omega
      simp (disch := (first | omega | (simp only [maxN_eq, List.length_append, List.length_cons, List.length_nil, List.length_set, List.length_replicate, List.length_take, List.length_drop]; omega))) only [hs, grd_dec g, grd_tt, grd_and, grd_dec, grd_ne, cond_dt, cond_df, cond_et, cond_ef, cond_nt, cond_nf, w64, wu64, wu32, wu8, tm, td, bind_some', same_ee, same_er, same_re, same_rr, cond_t, cond_f, Bool.not_true, Bool.not_false]
      rw [ht, hq]; rfl
theorem un_len {f : Rat → Rat} {k : Nat} (hf : ∀ q, D (f q) ≤ D q) {a : List UInt8} (ha : a.length ≤ k) : (un (fun q => txt (f q)) a).length ≤ k + 3 := by
  unfold un
  cases hr : rd a with
  | none => simp
  | some q =>
    have hq := rd_some hr
    have h1 := txt_len (f q)
    have h2 := hf q
    have h3 := D_le q
    rw [← hq] at h3
    show (txt (f q)).length ≤ k + 3
    omega
theorem neg_len {k : Nat} {a : List UInt8} (ha : a.length ≤ k) : (un (fun q => txt (-q)) a).length ≤ k + 3 := un_len (fun q => by rw [D_neg]; exact Nat.le_refl _) ha
theorem bin_len {f : Rat → Rat → Rat} {k : Nat} (hf : ∀ p q, D (f p q) ≤ 2 * (D p + D q) + 1) {a b : List UInt8} (ha : a.length ≤ k) (hb : b.length ≤ k) : (bin (fun p q => txt (f p q)) a b).length ≤ 4 * k + 8 := by
  unfold bin
  cases hr : rd a with
  | none => simp
  | some p =>
    cases hr2 : rd b with
    | none => simp
    | some q =>
      have h1 := txt_len (f p q)
      have h2 := hf p q
      have h3 := D_le p
      have h4 := D_le q
      rw [← rd_some hr] at h3
      rw [← rd_some hr2] at h4
      show (txt (f p q)).length ≤ _
      omega
theorem sub_eq' {a b : List UInt8} (ha : a.length ≤ 2000000) (hb : b.length ≤ 2000000) : n_Sub a b = some ((bin (fun p q => txt (p - q)) a b, ()), ()) := by
  unfold n_Sub
  rw [neg_eq (by omega), bind_some']
  dsimp only
  rw [Add_eq (by omega) (by have := neg_len hb; omega), bind_some']
  congr 3
  unfold un
  cases hr : rd b with
  | none => rw [bin_r rd_nil, bin_r hr]
  | some q =>
    have hq := rd_some hr
    unfold bin
    rw [rd_txt, hr]
    cases rd a with
    | none => rfl
    | some p => simp only [Rat.sub_eq_add_neg]
noncomputable def sCmp (a b : List UInt8) : Int :=
  match rd a, rd b with
  | some p, some q => (p - q).num.sign
  | _, _ => 0
theorem cmp_eq' {a b : List UInt8} (ha : a.length ≤ 2000000) (hb : b.length ≤ 2000000) : n_Cmp a b = some ((sCmp a b, ()), ()) := by
  unfold n_Cmp
  have hl := bin_len (f := fun p q => p - q) (fun p q => by rw [Rat.sub_eq_add_neg]; have := D_add p (-q); rw [D_neg] at this; exact this) ha hb
  rw [sub_eq' ha hb, bind_some']
  dsimp only
  rw [sign_eq (by omega), bind_some']
  congr 3
  unfold sSign sCmp bin
  cases hr : rd a with
  | none => simp only [rd_nil]
  | some p =>
    cases hr2 : rd b with
    | none => simp only [rd_nil]
    | some q => simp only [rd_txt]
end Go.AM.Num
end
section
set_option linter.unusedSimpArgs false
set_option linter.unusedVariables false
namespace Go.AM.Num

theorem txt_int (n : Int) : txt (n : Rat) = (if n < 0 then [45] else []) ++ dd n.natAbs := by
  unfold txt
  rw [Rat.num_intCast, Rat.den_intCast]; simp
theorem txt_nat (n : Nat) : txt ((n : Int) : Rat) = dd n := by rw [txt_int, if_neg (by omega)]; simp
theorem tx_int (neg : Bool) (m : Nat) : tx neg m 1 = txt ((sg neg m : Int) : Rat) := by
  rw [txt_int, sg_natAbs]
  unfold tx
  simp only [sg_neg_iff]; simp
theorem den_one {q : Rat} (h : q.den = 1) : q = ((q.num : Int) : Rat) := Rat.ext (by rw [Rat.num_intCast]) (by rw [Rat.den_intCast, h])

/-! ### Numerator and denominator -/
theorem head_47 (n : Int) : (47 : UInt8) ∉ (if n < 0 then [(45 : UInt8)] else []) ++ dd n.natAbs := by
  intro h
  rcases List.mem_append.1 h with h | h
  · split at h <;> simp at h
  · exact not_47 h
theorem cut_txt (q : Rat) (hl : (txt q).length ≤ 1000000000) : strings_Cut (txt q) [47] = some ((txt ((q.num : Int) : Rat), if q.den = 1 then [] else dd q.den, !decide (q.den = 1), ()), ()) := by
  rw [txt_int]
  by_cases h : q.den = 1
  · have e : txt q = (if q.num < 0 then [(45 : UInt8)] else []) ++ dd q.num.natAbs := by unfold txt; rw [if_pos h]; simp
    rw [e] at hl ⊢
    rw [cut_no (head_47 _) hl, if_pos h, decide_eq_true h]; rfl
  · have e : txt q = ((if q.num < 0 then [(45 : UInt8)] else []) ++ dd q.num.natAbs) ++ 47 :: dd q.den := by unfold txt; rw [if_neg h]
    rw [e] at hl ⊢
    rw [cut_yes (head_47 _) hl, if_neg h, decide_eq_false h]; rfl
theorem num_eq {a : List UInt8} (ha : a.length ≤ 10000000) : n_Num a = some ((un (fun q => txt ((q.num : Int) : Rat)) a, ()), ()) := by
  have hv := valid_eq ha
  unfold n_Num
  cases hr : rd a with
  | none => rw [hr] at hv; rw [un_none hr]; simp (disch := (first | omega | (simp only [maxN_eq, List.length_append, List.length_cons, List.length_nil, List.length_set, List.length_replicate, List.length_take, List.length_drop]; omega))) only [hv, Option.isSome_none, grd_tt, grd_and, grd_dec, grd_ne, cond_dt, cond_df, cond_et, cond_ef, cond_nt, cond_nf, w64, wu64, wu32, wu8, tm, td, bind_some', same_ee, same_er, same_re, same_rr, cond_t, cond_f, Bool.not_true, Bool.not_false]
  | some q =>
    rw [hr] at hv
    have hq := rd_some hr
    rw [hq] at ha hv ⊢
    rw [un_txt]
    simp (disch := (first | omega | (simp only [maxN_eq, List.length_append, List.length_cons, List.length_nil, List.length_set, List.length_replicate, List.length_take, List.length_drop]; omega))) only [hv, Option.isSome_some, cut_txt q (by omega), grd_tt, grd_and, grd_dec, grd_ne, cond_dt, cond_df, cond_et, cond_ef, cond_nt, cond_nf, w64, wu64, wu32, wu8, tm, td, bind_some', same_ee, same_er, same_re, same_rr, cond_t, cond_f, Bool.not_true, Bool.not_false]
theorem den_eq {a : List UInt8} (ha : a.length ≤ 10000000) : n_Den a = some ((un (fun q => dd q.den) a, ()), ()) := by
  have hv := valid_eq ha
  unfold n_Den
  cases hr : rd a with
  | none => rw [hr] at hv; rw [un_none hr]; simp (disch := (first | omega | (simp only [maxN_eq, List.length_append, List.length_cons, List.length_nil, List.length_set, List.length_replicate, List.length_take, List.length_drop]; omega))) only [hv, Option.isSome_none, grd_tt, grd_and, grd_dec, grd_ne, cond_dt, cond_df, cond_et, cond_ef, cond_nt, cond_nf, w64, wu64, wu32, wu8, tm, td, bind_some', same_ee, same_er, same_re, same_rr, cond_t, cond_f, Bool.not_true, Bool.not_false]
  | some q =>
    rw [hr] at hv
    have hq := rd_some hr
    rw [hq] at ha hv ⊢
    rw [un_txt]
    by_cases h : q.den = 1
    · simp (disch := (first | omega | (simp only [maxN_eq, List.length_append, List.length_cons, List.length_nil, List.length_set, List.length_replicate, List.length_take, List.length_drop]; omega))) only [hv, Option.isSome_some, cut_txt q (by omega), decide_eq_true h, grd_tt, grd_and, grd_dec, grd_ne, cond_dt, cond_df, cond_et, cond_ef, cond_nt, cond_nf, w64, wu64, wu32, wu8, tm, td, bind_some', same_ee, same_er, same_re, same_rr, cond_t, cond_f, Bool.not_true, Bool.not_false]
      rw [h, dd_one]
    · simp (disch := (first | omega | (simp only [maxN_eq, List.length_append, List.length_cons, List.length_nil, List.length_set, List.length_replicate, List.length_take, List.length_drop]; omega))) only [hv, Option.isSome_some, cut_txt q (by omega), decide_eq_false h, if_neg h, grd_tt, grd_and, grd_dec, grd_ne, cond_dt, cond_df, cond_et, cond_ef, cond_nt, cond_nf, w64, wu64, wu32, wu8, tm, td, bind_some', same_ee, same_er, same_re, same_rr, cond_t, cond_f, Bool.not_true, Bool.not_false]

/-! ### Integers -/
noncomputable def isI (a : List UInt8) : Bool := match rd a with | some q => q.den == 1 | none => false
theorem isI_txt (q : Rat) : isI (txt q) = (q.den == 1) := by unfold isI; rw [rd_txt]
theorem isI_true {a : List UInt8} (h : isI a = true) : ∃ n : Int, a = txt (n : Rat) ∧ rd a = some (n : Rat) := by
  unfold isI at h
  cases hr : rd a with
  | none => rw [hr] at h; cases h
  | some q =>
    rw [hr] at h
    have hd : q.den = 1 := by simpa using h
    exact ⟨q.num, by rw [← den_one hd]; exact rd_some hr, by rw [← den_one hd]⟩
theorem isI_int (n : Int) : isI (txt (n : Rat)) = true := by rw [isI_txt, Rat.den_intCast]; rfl
theorem isInt_eq {a : List UInt8} (ha : a.length ≤ 10000000) : n_IsInt a = some ((isI a, ()), ()) := by
  obtain ⟨neg, s, hcp, has, hs⟩ := sign_cut a
  have hsl : s.length ≤ 10000000 := by rw [has, List.length_append] at ha; omega
  have hn := numeral_eq s (by omega)
  unfold n_IsInt
  by_cases hd : s = dd (dval s)
  · have good : (neg = true → dval s ≠ 0) → isI a = true := by
      intro h
      have : a = txt ((sg neg (dval s) : Int) : Rat) := by
        have e := sgn_tx (neg := neg) (m := dval s) (d := 1) h
        rw [if_pos rfl, List.append_nil, ← hd] at e
        rw [has, e, tx_int]
      rw [this]; exact isI_int _
    by_cases h0 : s = [48]
    · cases neg with
      | true =>
        have hb : isI a = false := by
          cases hi : isI a with
          | false => rfl
          | true =>
            obtain ⟨n, hn1, _⟩ := isI_true hi
            obtain ⟨e1, e2⟩ := shape hs (has ▸ hn1)
            rw [Rat.den_intCast, if_pos rfl, List.append_nil, Rat.num_intCast, h0, ← dd_zero] at e2
            rw [Rat.num_intCast] at e1
            have := of_decide_eq_true e1.symm
            have := dd_inj e2
            omega
        rw [hb]
        simp (disch := (first | omega | (simp only [maxN_eq, List.length_append, List.length_cons, List.length_nil, List.length_set, List.length_replicate, List.length_take, List.length_drop]; omega))) only [hcp, hn, beq_of hd, beq_of h0, grd_tt, grd_and, grd_dec, grd_ne, cond_dt, cond_df, cond_et, cond_ef, cond_nt, cond_nf, w64, wu64, wu32, wu8, tm, td, bind_some', same_ee, same_er, same_re, same_rr, cond_t, cond_f, Bool.not_true, Bool.not_false]
      | false =>
        rw [good (fun h => by cases h)]
        simp (disch := (first | omega | (simp only [maxN_eq, List.length_append, List.length_cons, List.length_nil, List.length_set, List.length_replicate, List.length_take, List.length_drop]; omega))) only [hcp, hn, beq_of hd, grd_tt, grd_and, grd_dec, grd_ne, cond_dt, cond_df, cond_et, cond_ef, cond_nt, cond_nf, w64, wu64, wu32, wu8, tm, td, bind_some', same_ee, same_er, same_re, same_rr, cond_t, cond_f, Bool.not_true, Bool.not_false]
    · have hm0 : dval s ≠ 0 := fun e => h0 (by rw [hd, e, dd_zero])
      rw [good (fun _ => hm0)]
      cases neg with
      | true => simp (disch := (first | omega | (simp only [maxN_eq, List.length_append, List.length_cons, List.length_nil, List.length_set, List.length_replicate, List.length_take, List.length_drop]; omega))) only [hcp, hn, beq_of hd, beq_ne h0, grd_tt, grd_and, grd_dec, grd_ne, cond_dt, cond_df, cond_et, cond_ef, cond_nt, cond_nf, w64, wu64, wu32, wu8, tm, td, bind_some', same_ee, same_er, same_re, same_rr, cond_t, cond_f, Bool.not_true, Bool.not_false]
      | false => simp (disch := (first | omega | (simp only [maxN_eq, List.length_append, List.length_cons, List.length_nil, List.length_set, List.length_replicate, List.length_take, List.length_drop]; omega))) only [hcp, hn, beq_of hd, grd_tt, grd_and, grd_dec, grd_ne, cond_dt, cond_df, cond_et, cond_ef, cond_nt, cond_nf, w64, wu64, wu32, wu8, tm, td, bind_some', same_ee, same_er, same_re, same_rr, cond_t, cond_f, Bool.not_true, Bool.not_false]
  · have hb : isI a = false := by
      cases hi : isI a with
      | false => rfl
      | true =>
        obtain ⟨n, hn1, _⟩ := isI_true hi
        obtain ⟨e1, e2⟩ := shape hs (has ▸ hn1)
        rw [Rat.den_intCast, if_pos rfl, List.append_nil] at e2
        exact absurd (by rw [e2, dval_dd]) hd
    rw [hb]
    simp (disch := (first | omega | (simp only [maxN_eq, List.length_append, List.length_cons, List.length_nil, List.length_set, List.length_replicate, List.length_take, List.length_drop]; omega))) only [hcp, hn, beq_ne hd, grd_tt, grd_and, grd_dec, grd_ne, cond_dt, cond_df, cond_et, cond_ef, cond_nt, cond_nf, w64, wu64, wu32, wu8, tm, td, bind_some', same_ee, same_er, same_re, same_rr, cond_t, cond_f, Bool.not_true, Bool.not_false]

theorem divmod_unique {x Y Q R : Int} (hY : 0 < Y) (h : R + Y * Q = x) (h0 : 0 ≤ R) (h1 : R < Y) : x / Y = Q ∧ x % Y = R := (Int.ediv_emod_unique hY).2 ⟨h, h0, h1⟩
/-- Euclid's quotient and remainder by sign and magnitude. -/
theorem sg_divmod (n1 n2 : Bool) (X Y : Nat) (hY : Y ≠ 0) :
    (¬ (n1 = true ∧ X % Y ≠ 0) → sg n1 X / sg n2 Y = sg (n1 != n2) (X / Y) ∧ sg n1 X % sg n2 Y = ((X % Y : Nat) : Int)) ∧
    ((n1 = true ∧ X % Y ≠ 0) → sg n1 X / sg n2 Y = sg (n1 != n2) (X / Y + 1) ∧ sg n1 X % sg n2 Y = ((Y - X % Y : Nat) : Int)) := by
  have hY0 : (0 : Int) < Y := by omega
  have hdm := Nat.div_add_mod X Y
  have hml := Nat.mod_lt X (show 0 < Y by omega)
  obtain ⟨k, hk⟩ : ∃ k, k = X / Y := ⟨_, rfl⟩
  obtain ⟨r, hr⟩ : ∃ r, r = X % Y := ⟨_, rfl⟩
  rw [← hk, ← hr] at hdm ⊢
  rw [← hr] at hml
  have hX : (X : Int) = Y * k + r := by rw [← hdm]; simp
  have pos : (¬ (n1 = true ∧ r ≠ 0) → sg n1 X / (Y : Int) = sg n1 k ∧ sg n1 X % (Y : Int) = ((r : Nat) : Int)) ∧
    ((n1 = true ∧ r ≠ 0) → sg n1 X / (Y : Int) = sg n1 (k + 1) ∧ sg n1 X % (Y : Int) = ((Y - r : Nat) : Int)) := by
    constructor
    · intro h
      apply divmod_unique hY0 _ (by omega) (by omega)
      cases n1 with
      | false => simp only [sg, Bool.false_eq_true, if_false]; omega
      | true =>
        have : r = 0 := by simpa using h
        subst this
        simp only [sg, if_true]
        rw [Int.mul_neg]; omega
    · rintro ⟨rfl, h⟩
      apply divmod_unique hY0 _ (by omega) (by omega)
      simp only [sg, if_true]
      rw [Int.mul_neg, Int.natCast_add, Int.mul_add]
      omega
  cases n2 with
  | false =>
    have e : sg false Y = (Y : Int) := rfl
    rw [e]
    simpa using pos
  | true =>
    have e : sg true Y = -(Y : Int) := rfl
    rw [e, Int.ediv_neg, Int.emod_neg]
    have hns : ∀ m, -sg n1 m = sg (n1 != true) m := by intro m; cases n1 <;> simp [sg]
    constructor
    · intro h
      obtain ⟨a1, a2⟩ := pos.1 h
      rw [a1, a2, hns]; exact ⟨rfl, rfl⟩
    · intro h
      obtain ⟨a1, a2⟩ := pos.2 h
      rw [a1, a2, hns]; exact ⟨rfl, rfl⟩
theorem rep_int (x : Int) : rep (x : Rat) = (decide (x < 0), limbs x.natAbs, [1]) := by
  unfold rep; rw [Rat.num_intCast, Rat.den_intCast, limbs_one]
theorem is_int {neg : Bool} {m : Nat} (hm : (dd m).length ≤ 100000000) : Is (neg, limbs m, [1]) ((sg neg m : Int) : Rat) := ⟨neg, m, 1, by rw [limbs_one], tx_int neg m, hm, by rw [dd_one]; decide⟩
theorem rquo (x y : Int) (hy : y ≠ 0) (hx : (dd x.natAbs).length ≤ 10000000) (hyl : (dd y.natAbs).length ≤ 10000000) :
    ∃ r1 r2, n_rat_quoRem (rep (x : Rat)) (rep (y : Rat)) = some ((r1, r2, ()), ()) ∧ Is r1 ((x / y : Int) : Rat) ∧ Is r2 ((x % y : Int) : Rat) := by
  obtain ⟨X, hX⟩ : ∃ X, X = x.natAbs := ⟨_, rfl⟩
  obtain ⟨Y, hY⟩ : ∃ Y, Y = y.natAbs := ⟨_, rfl⟩
  obtain ⟨n1, h1⟩ : ∃ n, n = decide (x < 0) := ⟨_, rfl⟩
  obtain ⟨n2, h2⟩ : ∃ n, n = decide (y < 0) := ⟨_, rfl⟩
  have ex : x = sg n1 X := by rw [h1, hX]; exact sg_of x
  have ey : y = sg n2 Y := by rw [h2, hY]; exact sg_of y
  rw [rep_int, rep_int, ← h1, ← h2, ← hX, ← hY]
  rw [← hX] at hx
  rw [← hY] at hyl
  have hY0 : Y ≠ 0 := by rw [hY]; omega
  have L := limbs_le_dd
  have hq := quoRem_eq X Y (by have := L X; omega) (by have := L Y; omega) hY0
  have b1 := dd_len_mono (Nat.div_le_self X Y)
  have b2 := dd_len_mono (Nat.le_of_lt (Nat.mod_lt X (show 0 < Y by omega)))
  have b3 := dd_len_mono (Nat.sub_le Y (X % Y))
  have b4 := dd_len_add (X / Y) 1
  rw [dd_one] at b4
  have b5 : ([49] : List UInt8).length = 1 := rfl
  obtain ⟨d1, d2⟩ := sg_divmod n1 n2 X Y hY0
  rw [← ex, ← ey] at d1 d2
  have e3 : (!(n1 == n2)) = (n1 != n2) := rfl
  unfold n_rat_quoRem
  by_cases hc : n1 = true ∧ X % Y ≠ 0
  · obtain ⟨q1, q2⟩ := d2 hc
    obtain ⟨rfl, hr⟩ := hc
    have hl : ((limbs (X % Y)).length : Int) > 0 := by
      have : (limbs (X % Y)).length ≠ 0 := fun e => hr (limbs_nil.1 (List.eq_nil_of_length_eq_zero e))
      omega
    have ha := add_eq (X / Y) 1 (by have := L (X / Y); omega) (by rw [limbs_one]; decide)
    rw [limbs_one] at ha
    have hs := sub_eq Y (X % Y) (by have := L Y; omega) (Nat.le_of_lt (Nat.mod_lt X (by omega)))
    refine ⟨(true != n2, limbs (X / Y + 1), [1]), (false, limbs (Y - X % Y), [1]), ?_, ?_, ?_⟩
    · simp (disch := (first | omega | (simp only [maxN_eq, List.length_append, List.length_cons, List.length_nil, List.length_set, List.length_replicate, List.length_take, List.length_drop]; omega))) only [hq, cond_dt hl, ha, hs, grd_tt, grd_and, grd_dec, grd_ne, cond_dt, cond_df, cond_et, cond_ef, cond_nt, cond_nf, w64, wu64, wu32, wu8, tm, td, bind_some', same_ee, same_er, same_re, same_rr, cond_t, cond_f, Bool.not_true, Bool.not_false]
      rfl
    · rw [q1]; exact is_int (by omega)
    · rw [q2]; exact is_int (neg := false) (by omega)
  · obtain ⟨q1, q2⟩ := d1 hc
    refine ⟨(n1 != n2, limbs (X / Y), [1]), (false, limbs (X % Y), [1]), ?_, ?_, ?_⟩
    · cases n1 with
      | false => simp (disch := (first | omega | (simp only [maxN_eq, List.length_append, List.length_cons, List.length_nil, List.length_set, List.length_replicate, List.length_take, List.length_drop]; omega))) only [hq, grd_tt, grd_and, grd_dec, grd_ne, cond_dt, cond_df, cond_et, cond_ef, cond_nt, cond_nf, w64, wu64, wu32, wu8, tm, td, bind_some', same_ee, same_er, same_re, same_rr, cond_t, cond_f, Bool.not_true, Bool.not_false]; rfl
      | true =>
        have hr : X % Y = 0 := by simpa using hc
        have hl : ¬ ((limbs (X % Y)).length : Int) > 0 := by rw [hr, limbs_zero]; simp
        simp (disch := (first | omega | (simp only [maxN_eq, List.length_append, List.length_cons, List.length_nil, List.length_set, List.length_replicate, List.length_take, List.length_drop]; omega))) only [hq, cond_df hl, grd_tt, grd_and, grd_dec, grd_ne, cond_dt, cond_df, cond_et, cond_ef, cond_nt, cond_nf, w64, wu64, wu32, wu8, tm, td, bind_some', same_ee, same_er, same_re, same_rr, cond_t, cond_f, Bool.not_true, Bool.not_false]
        rfl
    · rw [q1]; exact is_int (by omega)
    · rw [q2]; exact is_int (neg := false) (by omega)

/-- An operation on integers; nothing where one is none. -/
noncomputable def ibin (f : Int → Int → List UInt8) : List UInt8 → List UInt8 → List UInt8 := bin fun p q => if p.den = 1 ∧ q.den = 1 then f p.num q.num else []
theorem ibin_int (f : Int → Int → List UInt8) (x y : Int) : ibin f (txt (x : Rat)) (txt (y : Rat)) = f x y := by
  unfold ibin; rw [bin_txt, if_pos ⟨Rat.den_intCast x, Rat.den_intCast y⟩, Rat.num_intCast, Rat.num_intCast]
theorem ibin_l {f : Int → Int → List UInt8} {a b : List UInt8} (h : isI a = false) : ibin f a b = [] := by
  unfold ibin bin isI at *
  cases hr : rd a with
  | none => rfl
  | some p =>
    rw [hr] at h
    have : p.den ≠ 1 := by simpa using h
    cases rd b <;> simp [this]
theorem ibin_r {f : Int → Int → List UInt8} {a b : List UInt8} (h : isI b = false) : ibin f a b = [] := by
  unfold ibin bin isI at *
  cases hr : rd b with
  | none => cases rd a <;> rfl
  | some p =>
    rw [hr] at h
    have : p.den ≠ 1 := by simpa using h
    cases rd a <;> simp [this]
theorem D_intc {n : Int} {k : Nat} (h : (txt (n : Rat)).length ≤ k) : D (n : Rat) ≤ k + 1 ∧ (dd n.natAbs).length ≤ k := by
  have h1 := D_of_len h
  have h2 := D_int n
  omega
theorem quoRem_eq' {a b : List UInt8} (ha : a.length ≤ 3000000) (hb : b.length ≤ 3000000) :
    n_quoRem a b = some ((ibin (fun x y => if y = 0 then [] else txt ((x / y : Int) : Rat)) a b, ibin (fun x y => if y = 0 then [] else txt ((x % y : Int) : Rat)) a b, ()), ()) := by
  have h1 := isInt_eq (a := a) (by omega)
  have h2 := isInt_eq (a := b) (by omega)
  unfold n_quoRem
  cases i1 : isI a with
  | false => rw [i1] at h1; rw [ibin_l i1, ibin_l i1]; simp (disch := (first | omega | (simp only [maxN_eq, List.length_append, List.length_cons, List.length_nil, List.length_set, List.length_replicate, List.length_take, List.length_drop]; omega))) only [h1, grd_tt, grd_and, grd_dec, grd_ne, cond_dt, cond_df, cond_et, cond_ef, cond_nt, cond_nf, w64, wu64, wu32, wu8, tm, td, bind_some', same_ee, same_er, same_re, same_rr, cond_t, cond_f, Bool.not_true, Bool.not_false]
  | true =>
    rw [i1] at h1
    cases i2 : isI b with
    | false => rw [i2] at h2; rw [ibin_r i2, ibin_r i2]; simp (disch := (first | omega | (simp only [maxN_eq, List.length_append, List.length_cons, List.length_nil, List.length_set, List.length_replicate, List.length_take, List.length_drop]; omega))) only [h1, h2, grd_tt, grd_and, grd_dec, grd_ne, cond_dt, cond_df, cond_et, cond_ef, cond_nt, cond_nf, w64, wu64, wu32, wu8, tm, td, bind_some', same_ee, same_er, same_re, same_rr, cond_t, cond_f, Bool.not_true, Bool.not_false]
    | true =>
      rw [i2] at h2
      obtain ⟨x, rfl, _⟩ := isI_true i1
      obtain ⟨y, rfl, _⟩ := isI_true i2
      rw [ibin_int, ibin_int]
      by_cases hy : y = 0
      · subst hy
        have hz : txt ((0 : Int) : Rat) = [48] := txt_zero
        rw [if_pos rfl, if_pos rfl]
        simp (disch := (first | omega | (simp only [maxN_eq, List.length_append, List.length_cons, List.length_nil, List.length_set, List.length_replicate, List.length_take, List.length_drop]; omega))) only [h1, h2, beq_of hz, grd_tt, grd_and, grd_dec, grd_ne, cond_dt, cond_df, cond_et, cond_ef, cond_nt, cond_nf, w64, wu64, wu32, wu8, tm, td, bind_some', same_ee, same_er, same_re, same_rr, cond_t, cond_f, Bool.not_true, Bool.not_false]
      · have hz : txt ((y : Int) : Rat) ≠ [48] := fun e => hy (by have := txt_eq_zero.1 e; simpa using congrArg Rat.num this)
        obtain ⟨a1, a2⟩ := D_intc ha
        obtain ⟨a3, a4⟩ := D_intc hb
        obtain ⟨r1, r2, hr, g1, g2⟩ := rquo x y hy (by omega) (by omega)
        rw [if_neg hy, if_neg hy]
        simp (disch := (first | omega | (simp only [maxN_eq, List.length_append, List.length_cons, List.length_nil, List.length_set, List.length_replicate, List.length_take, List.length_drop]; omega))) only [h1, h2, beq_ne hz, read_txt (x : Rat) (by omega), read_txt (y : Rat) (by omega), hr, g1.text, g2.text, grd_tt, grd_and, grd_dec, grd_ne, cond_dt, cond_df, cond_et, cond_ef, cond_nt, cond_nf, w64, wu64, wu32, wu8, tm, td, bind_some', same_ee, same_er, same_re, same_rr, cond_t, cond_f, Bool.not_true, Bool.not_false]
noncomputable def sQuo : List UInt8 → List UInt8 → List UInt8 := ibin fun x y => if y = 0 then [] else txt ((x / y : Int) : Rat)
noncomputable def sRem : List UInt8 → List UInt8 → List UInt8 := ibin fun x y => if y = 0 then [] else txt ((x % y : Int) : Rat)
theorem quo_eq {a b : List UInt8} (ha : a.length ≤ 3000000) (hb : b.length ≤ 3000000) : n_Quo a b = some ((sQuo a b, ()), ()) := by
  unfold n_Quo; rw [quoRem_eq' ha hb]; rfl
theorem rem_eq {a b : List UInt8} (ha : a.length ≤ 3000000) (hb : b.length ≤ 3000000) : n_Rem a b = some ((sRem a b, ()), ()) := by
  unfold n_Rem; rw [quoRem_eq' ha hb]; rfl
noncomputable def sGcd : List UInt8 → List UInt8 → List UInt8 := ibin fun x y => dd (Nat.gcd x.natAbs y.natAbs)
theorem gcd_eq' {a b : List UInt8} (ha : a.length ≤ 3000000) (hb : b.length ≤ 3000000) : n_Gcd a b = some ((sGcd a b, ()), ()) := by
  have h1 := isInt_eq (a := a) (by omega)
  have h2 := isInt_eq (a := b) (by omega)
  unfold n_Gcd sGcd
  cases i1 : isI a with
  | false => rw [i1] at h1; rw [ibin_l i1]; simp (disch := (first | omega | (simp only [maxN_eq, List.length_append, List.length_cons, List.length_nil, List.length_set, List.length_replicate, List.length_take, List.length_drop]; omega))) only [h1, grd_tt, grd_and, grd_dec, grd_ne, cond_dt, cond_df, cond_et, cond_ef, cond_nt, cond_nf, w64, wu64, wu32, wu8, tm, td, bind_some', same_ee, same_er, same_re, same_rr, cond_t, cond_f, Bool.not_true, Bool.not_false]
  | true =>
    rw [i1] at h1
    cases i2 : isI b with
    | false => rw [i2] at h2; rw [ibin_r i2]; simp (disch := (first | omega | (simp only [maxN_eq, List.length_append, List.length_cons, List.length_nil, List.length_set, List.length_replicate, List.length_take, List.length_drop]; omega))) only [h1, h2, grd_tt, grd_and, grd_dec, grd_ne, cond_dt, cond_df, cond_et, cond_ef, cond_nt, cond_nf, w64, wu64, wu32, wu8, tm, td, bind_some', same_ee, same_er, same_re, same_rr, cond_t, cond_f, Bool.not_true, Bool.not_false]
    | true =>
      rw [i2] at h2
      obtain ⟨x, rfl, _⟩ := isI_true i1
      obtain ⟨y, rfl, _⟩ := isI_true i2
      rw [ibin_int]
      obtain ⟨a1, a2⟩ := D_intc ha
      obtain ⟨a3, a4⟩ := D_intc hb
      have L := limbs_le_dd
      have hg := gcd_eq x.natAbs y.natAbs (by have := L x.natAbs; omega) (by have := L y.natAbs; omega)
      have hgl : (limbs (Nat.gcd x.natAbs y.natAbs)).length ≤ 1000000000 := by
        rcases Nat.eq_zero_or_pos x.natAbs with h0 | h0
        · rw [h0, Nat.gcd_zero_left]; have := L y.natAbs; omega
        · have := limbs_len_mono (Nat.le_of_dvd h0 (Nat.gcd_dvd_left x.natAbs y.natAbs)); have := L x.natAbs; omega
      have e1 : (rep (x : Rat)).2.1 = limbs x.natAbs := by rw [rep_int]
      have e2 : (rep (y : Rat)).2.1 = limbs y.natAbs := by rw [rep_int]
      simp (disch := (first | omega | (simp only [maxN_eq, List.length_append, List.length_cons, List.length_nil, List.length_set, List.length_replicate, List.length_take, List.length_drop]; omega))) only [h1, h2, read_txt (x : Rat) (by omega), read_txt (y : Rat) (by omega), e1, e2, hg, text_eq _ hgl, grd_tt, grd_and, grd_dec, grd_ne, cond_dt, cond_df, cond_et, cond_ef, cond_nt, cond_nf, w64, wu64, wu32, wu8, tm, td, bind_some', same_ee, same_er, same_re, same_rr, cond_t, cond_f, Bool.not_true, Bool.not_false]

/-! ### Rounding, absolute value -/
theorem num_len' {k : Nat} {a : List UInt8} (ha : a.length ≤ k) : (un (fun q => txt ((q.num : Int) : Rat)) a).length ≤ k := by
  unfold un
  cases hr : rd a with
  | none => simp
  | some q =>
    have hq := rd_some hr
    rw [hq] at ha
    refine Nat.le_trans ?_ ha
    show (txt ((q.num : Int) : Rat)).length ≤ (txt q).length
    rw [txt_int]
    unfold txt
    simp
theorem den_len' {k : Nat} {a : List UInt8} (ha : a.length ≤ k) : (un (fun q => dd q.den) a).length ≤ k + 1 := by
  unfold un
  cases hr : rd a with
  | none => simp
  | some q =>
    have hq := rd_some hr
    have h1 := D_le q
    have h2 := den_len q
    rw [← hq] at h1
    show (dd q.den).length ≤ _
    omega
theorem floor_eq {a : List UInt8} (ha : a.length ≤ 2000000) : n_Floor a = some ((un (fun q => txt ((q.floor : Int) : Rat)) a, ()), ()) := by
  unfold n_Floor
  have h1 := num_len' ha
  have h2 := den_len' ha
  simp (disch := (first | omega | (simp only [maxN_eq, List.length_append, List.length_cons, List.length_nil, List.length_set, List.length_replicate, List.length_take, List.length_drop]; omega))) only [num_eq (a := a) (by omega), den_eq (a := a) (by omega), quo_eq (a := un (fun q => txt ((q.num : Int) : Rat)) a) (b := un (fun q => dd q.den) a) (by omega) (by omega), grd_tt, grd_and, grd_dec, grd_ne, cond_dt, cond_df, cond_et, cond_ef, cond_nt, cond_nf, w64, wu64, wu32, wu8, tm, td, bind_some', same_ee, same_er, same_re, same_rr, cond_t, cond_f, Bool.not_true, Bool.not_false]
  congr 3
  unfold un
  cases hr : rd a with
  | none => exact ibin_l (by unfold isI; rw [rd_nil])
  | some q =>
    show sQuo (txt ((q.num : Int) : Rat)) (dd q.den) = _
    rw [← txt_nat q.den]
    unfold sQuo
    rw [ibin_int, if_neg (by have := q.den_nz; omega)]
    show _ = txt ((q.floor : Int) : Rat)
    rw [Rat.floor_def]
theorem D_floor (q : Rat) : D ((q.floor : Int) : Rat) ≤ D q + 1 := by
  rw [D_int, Rat.floor_def]
  have h1 : (q.num / (q.den : Int)).natAbs ≤ q.num.natAbs := by
    have hd := q.den_nz
    rcases Int.lt_or_le q.num 0 with h | h
    · have h2 : q.num ≤ q.num / (q.den : Int) := by
        apply Int.le_ediv_of_mul_le (by omega)
        have : q.num * q.den ≤ q.num * 1 := Int.mul_le_mul_of_nonpos_left (by omega) (by omega)
        omega
      have h3 : q.num / (q.den : Int) ≤ 0 := by
        have := Int.ediv_le_ediv (c := (q.den : Int)) (by omega) (show q.num ≤ 0 by omega)
        rw [Int.zero_ediv] at this
        omega
      omega
    · have h2 := Int.ediv_le_self (q.den : Int) h
      have h3 := Int.ediv_nonneg h (show (0 : Int) ≤ q.den by omega)
      omega
  have := dd_len_mono h1
  have := num_len q
  omega
theorem floor_len {k : Nat} {a : List UInt8} (ha : a.length ≤ k) : (un (fun q => txt ((q.floor : Int) : Rat)) a).length ≤ k + 4 := by
  unfold un
  cases hr : rd a with
  | none => simp
  | some q =>
    have hq := rd_some hr
    have h1 := txt_len ((q.floor : Int) : Rat)
    have h2 := D_floor q
    have h3 := D_le q
    rw [← hq] at h3
    show (txt ((q.floor : Int) : Rat)).length ≤ k + 4
    omega
theorem ceil_eq {a : List UInt8} (ha : a.length ≤ 1000000) : n_Ceil a = some ((un (fun q => txt ((q.ceil : Int) : Rat)) a, ()), ()) := by
  unfold n_Ceil
  have h1 := neg_len ha
  have h2 := floor_len h1
  simp (disch := (first | omega | (simp only [maxN_eq, List.length_append, List.length_cons, List.length_nil, List.length_set, List.length_replicate, List.length_take, List.length_drop]; omega))) only [neg_eq (a := a) (by omega), floor_eq (a := un (fun q => txt (-q)) a) (by omega), neg_eq (a := un (fun q => txt ((q.floor : Int) : Rat)) (un (fun q => txt (-q)) a)) (by omega), grd_tt, grd_and, grd_dec, grd_ne, cond_dt, cond_df, cond_et, cond_ef, cond_nt, cond_nf, w64, wu64, wu32, wu8, tm, td, bind_some', same_ee, same_er, same_re, same_rr, cond_t, cond_f, Bool.not_true, Bool.not_false]
  congr 3
  cases hr : rd a with
  | none =>
    rw [un_none (a := a) hr, un_none (a := []) rd_nil, un_none (a := []) rd_nil, un_none (a := a) hr]
  | some q =>
    rw [rd_some hr, un_txt, un_txt, un_txt, un_txt]
    congr 1
    rw [Rat.ceil_eq_neg_floor_neg, Rat.intCast_neg]
/-- The absolute value. -/
def qabs (q : Rat) : Rat := if q.num < 0 then -q else q
theorem abs_eq {a : List UInt8} (ha : a.length ≤ 3000000) : n_Abs a = some ((un (fun q => txt (qabs q)) a, ()), ()) := by
  have hs := sign_eq (a := a) (by omega)
  have h1 := neg_len ha
  unfold n_Abs
  cases hr : rd a with
  | none =>
    have e : sSign a = 0 := by unfold sSign; rw [hr]
    rw [e] at hs
    have hn1 := neg_eq (a := a) (by omega)
    have hn2 := neg_eq (a := []) (by simp)
    rw [un_none hr] at hn1
    rw [un_none rd_nil] at hn2
    rw [un_none hr]
    simp (disch := (first | omega | (simp only [maxN_eq, List.length_append, List.length_cons, List.length_nil, List.length_set, List.length_replicate, List.length_take, List.length_drop]; omega))) only [hs, hn1, hn2, grd_tt, grd_and, grd_dec, grd_ne, cond_dt, cond_df, cond_et, cond_ef, cond_nt, cond_nf, w64, wu64, wu32, wu8, tm, td, bind_some', same_ee, same_er, same_re, same_rr, cond_t, cond_f, Bool.not_true, Bool.not_false]
  | some q =>
    have hq := rd_some hr
    have e : sSign a = q.num.sign := by unfold sSign; rw [hr]
    rw [e] at hs
    have hu : un (fun q => txt (qabs q)) a = txt (qabs q) := by rw [hq, un_txt]
    rw [hu]
    by_cases h : q.num < 0
    · rw [Int.sign_eq_neg_one_of_neg h] at hs
      have ht := txt_neg_of_neg h
      have hal : 1 ≤ a.length := by rw [hq, ht]; simp
      have h11 : ((1 : Int)).toNat = 1 := rfl
      simp (disch := (first | omega | (simp only [maxN_eq, List.length_append, List.length_cons, List.length_nil, List.length_set, List.length_replicate, List.length_take, List.length_drop]; omega))) only [hs, h11, grd_tt, grd_and, grd_dec, grd_ne, cond_dt, cond_df, cond_et, cond_ef, cond_nt, cond_nf, w64, wu64, wu32, wu8, tm, td, bind_some', same_ee, same_er, same_re, same_rr, cond_t, cond_f, Bool.not_true, Bool.not_false]
      unfold qabs
      rw [if_pos h, hq, ht]; rfl
    · have hsn : ¬ q.num.sign < 0 := by rw [Int.sign_neg_iff]; exact h
      simp (disch := (first | omega | (simp only [maxN_eq, List.length_append, List.length_cons, List.length_nil, List.length_set, List.length_replicate, List.length_take, List.length_drop]; omega))) only [hs, neg_eq (a := a) (by omega), neg_eq (a := un (fun q => txt (-q)) a) (by omega), grd_tt, grd_and, grd_dec, grd_ne, cond_dt, cond_df, cond_et, cond_ef, cond_nt, cond_nf, w64, wu64, wu32, wu8, tm, td, bind_some', same_ee, same_er, same_re, same_rr, cond_t, cond_f, Bool.not_true, Bool.not_false]
      rw [hq, un_txt, un_txt, Rat.neg_neg]
      unfold qabs
      rw [if_neg h]
theorem D_qabs (q : Rat) : D (qabs q) = D q := by unfold qabs; split; exact D_neg q; rfl
end Go.AM.Num
end
