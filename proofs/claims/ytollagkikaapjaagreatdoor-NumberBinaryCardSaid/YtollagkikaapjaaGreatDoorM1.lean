/- What these functions of plain data are in terms of rational numbers. No condition beyond what each statement says. -/
import Derived.Test.YtollagkikaapjaaGreatDoorN1
import Derived.IntWalk
import Derived.Lib.ItoaNum
set_option linter.unusedSimpArgs false
set_option linter.unusedVariables false
section
namespace Go.AM.Num

/-! ### Loops -/
theorem loopO_ind {α : Type} {step : α → Option (Ex × α)} {Q : Ex × α → Prop} (I : Nat → α → Prop)
    (h : ∀ n x, I n x → (∃ r, step x = some r ∧ r.1 ≠ .normal ∧ Q r) ∨ (∃ m y, step x = some (.normal, y) ∧ m < n ∧ I m y)) :
    ∀ n x, I n x → ∃ r, loopO step x = some r ∧ Q r := by
  intro n
  induction n using Nat.strongRecOn with
  | _ n ih =>
    intro x hx
    rcases h n x hx with ⟨⟨ex, y⟩, hs, hne, hq⟩ | ⟨m, y, hs, hm, hy⟩
    · refine ⟨_, ?_, hq⟩
      rw [loopO_step, hs]
      cases ex with
      | normal => exact absurd rfl hne
      | exit id => rfl
      | ret => rfl
    · obtain ⟨r, hr, hq⟩ := ih m hm y hy
      exact ⟨r, by rw [loopO_step, hs]; exact hr, hq⟩
theorem loopO_go {α : Type} {step : α → Option (Ex × α)} {x y : α} (h : step x = some (.normal, y)) : loopO step x = loopO step y := by
  rw [loopO_step, h]
theorem loopO_end {α : Type} {step : α → Option (Ex × α)} {x y : α} {e : Ex} (h : step x = some (e, y)) (he : e ≠ .normal) : loopO step x = some (e, y) := by
  rw [loopO_step, h]
  cases e with
  | normal => exact absurd rfl he
  | exit id => rfl
  | ret => rfl

theorem same_ee (i : Nat) : Ex.same (.exit i) (.exit i) = true := by simp [Ex.same]
theorem same_rr : Ex.same .ret .ret = true := by simp [Ex.same]
theorem same_re (i : Nat) : Ex.same .ret (.exit i) = false := by simp [Ex.same]
theorem same_er (i : Nat) : Ex.same (.exit i) .ret = false := by simp [Ex.same]
theorem same_ij {i j : Nat} (h : i ≠ j) : Ex.same (.exit i) (.exit j) = false := by simp [Ex.same, h]

/-! ### Tests -/
section
variable {ρ : Type}
theorem grd_tt (k : Option ρ) : grd true k = k := rfl
theorem grd_and (a b : Bool) (k : Option ρ) : grd (a && b) k = grd a (grd b k) := by cases a <;> rfl
theorem grd_dec {p : Prop} {_ : Decidable p} (h : p) (k : Option ρ) : grd (decide p) k = k := by rw [decide_eq_true h]; rfl
theorem grd_ne {x y : Int} (h : x ≠ y) (k : Option ρ) : grd (x != y) k = k := by
  have : (x != y) = true := by simpa using h
  rw [this]; rfl
theorem cond_t {α : Type} (a b : α) : cond true a b = a := rfl
theorem cond_f {α : Type} (a b : α) : cond false a b = b := rfl
theorem cond_dt {α : Type} {p : Prop} {_ : Decidable p} (h : p) (a b : α) : cond (decide p) a b = a := by rw [decide_eq_true h]; rfl
theorem cond_df {α : Type} {p : Prop} {_ : Decidable p} (h : ¬ p) (a b : α) : cond (decide p) a b = b := by rw [decide_eq_false h]; rfl
theorem cond_et {α : Type} {x y : Int} (h : x = y) (a b : α) : cond (x == y) a b = a := by
  have : (x == y) = true := by simpa using h
  rw [this]; rfl
theorem cond_ef {α : Type} {x y : Int} (h : x ≠ y) (a b : α) : cond (x == y) a b = b := by
  have : (x == y) = false := by simpa using h
  rw [this]; rfl
theorem cond_nt {α : Type} {x y : Int} (h : x ≠ y) (a b : α) : cond (x != y) a b = a := by
  have : (x != y) = true := by simpa using h
  rw [this]; rfl
theorem cond_nf {α : Type} {x y : Int} (h : x = y) (a b : α) : cond (x != y) a b = b := by
  have : (x != y) = false := by simpa using h
  rw [this]; rfl
theorem bind_some' {α β : Type} (x : α) (f : α → Option β) : (some x).bind f = f x := rfl
end

/-! ### Whole numbers that fit -/
theorem w64 {x : Int} (h : -9223372036854775808 ≤ x ∧ x ≤ 9223372036854775807) : IntKind.i64.wrap x = x := IntWalk.i64_in x h
theorem wu64 {x : Int} (h : 0 ≤ x ∧ x ≤ 18446744073709551615) : IntKind.u64.wrap x = x := IntWalk.u64_in x h
theorem wu32 {x : Int} (h : 0 ≤ x ∧ x ≤ 4294967295) : IntKind.u32.wrap x = x := IntWalk.u32_in x h
theorem wu8 {x : Int} (h : 0 ≤ x ∧ x ≤ 255) : IntKind.u8.wrap x = x := IntWalk.u8_in x h
theorem tm {x y : Int} (h : 0 ≤ x) : x.tmod y = x % y := Int.tmod_eq_emod_of_nonneg h
theorem td {x y : Int} (h : 0 ≤ x) : x.tdiv y = x / y := Int.tdiv_eq_ediv_of_nonneg h
theorem maxA_def (a b : Int) : maxA a b = if b > a then b else a := rfl
theorem minA_def (a b : Int) : minA a b = if b < a then b else a := rfl

/-! ### Rows of limbs, the lowest first -/
abbrev BB : Int := 1000000000
def bp (i : Nat) : Int := 1000000000 ^ i
theorem bp_zero : bp 0 = 1 := rfl
theorem bp_succ (i : Nat) : bp (i + 1) = 1000000000 * bp i := by unfold bp; rw [Int.pow_succ, Int.mul_comm]
theorem bp_pos (i : Nat) : 0 < bp i := by
  induction i with
  | zero => decide
  | succ i ih => rw [bp_succ]; omega
theorem bp_add (i j : Nat) : bp (i + j) = bp i * bp j := by unfold bp; exact Int.pow_add ..
theorem bp_le {i j : Nat} (h : i ≤ j) : bp i ≤ bp j := by
  obtain ⟨k, rfl⟩ := Nat.exists_eq_add_of_le h
  rw [bp_add]
  have h1 := bp_pos i
  have h2 := bp_pos k
  have : bp i * 1 ≤ bp i * bp k := Int.mul_le_mul_of_nonneg_left (by omega) (by omega)
  omega

def lv : List Int → Int
  | [] => 0
  | x :: r => x + 1000000000 * lv r
def Wf (l : List Int) : Prop := ∀ x ∈ l, 0 ≤ x ∧ x < 1000000000

theorem Wf.nil : Wf [] := by simp [Wf]
theorem Wf.cons {x : Int} {l : List Int} (h : 0 ≤ x ∧ x < 1000000000) (hl : Wf l) : Wf (x :: l) := by
  intro y hy
  rcases List.mem_cons.1 hy with rfl | hy
  · exact h
  · exact hl y hy
theorem Wf.app {a b : List Int} (ha : Wf a) (hb : Wf b) : Wf (a ++ b) := by
  intro y hy
  rcases List.mem_append.1 hy with hy | hy
  · exact ha y hy
  · exact hb y hy
theorem Wf.one {x : Int} (h : 0 ≤ x ∧ x < 1000000000) : Wf [x] := Wf.cons h Wf.nil
theorem Wf.take {l : List Int} (h : Wf l) (n : Nat) : Wf (l.take n) := fun x hx => h x (List.mem_of_mem_take hx)
theorem Wf.drop {l : List Int} (h : Wf l) (n : Nat) : Wf (l.drop n) := fun x hx => h x (List.mem_of_mem_drop hx)
theorem Wf.set {l : List Int} (h : Wf l) (i : Nat) {x : Int} (hx : 0 ≤ x ∧ x < 1000000000) : Wf (l.set i x) := by
  intro y hy
  rcases List.mem_or_eq_of_mem_set hy with hy | rfl
  · exact h y hy
  · exact hx
theorem Wf.at {l : List Int} (h : Wf l) (i : Nat) : 0 ≤ l.getD i 0 ∧ l.getD i 0 < 1000000000 := by
  by_cases hi : i < l.length
  · rw [List.getD_eq_getElem?_getD, List.getElem?_eq_getElem hi]
    exact h _ (List.getElem_mem hi)
  · rw [List.getD_eq_getElem?_getD, List.getElem?_eq_none (by omega)]
    decide
theorem Wf.zeros (n : Nat) : Wf (List.replicate n (0 : Int)) := by
  intro x hx
  rw [List.eq_of_mem_replicate hx]
  decide

theorem lv_nil : lv [] = 0 := rfl
theorem lv_cons (x : Int) (l : List Int) : lv (x :: l) = x + 1000000000 * lv l := rfl
theorem lv_app (a b : List Int) : lv (a ++ b) = lv a + bp a.length * lv b := by
  induction a with
  | nil => simp [lv, bp]
  | cons x a ih =>
    simp only [List.cons_append, lv, ih, List.length_cons, bp_succ]
    grind
theorem lv_one (x : Int) : lv [x] = x := by simp [lv]
theorem lv_snoc (a : List Int) (x : Int) : lv (a ++ [x]) = lv a + x * bp a.length := by rw [lv_app, lv_one, Int.mul_comm]
theorem lv_zeros (n : Nat) : lv (List.replicate n (0 : Int)) = 0 := by
  induction n with
  | zero => rfl
  | succ n ih => simp [List.replicate_succ, lv, ih]
theorem lv_nonneg {l : List Int} (h : Wf l) : 0 ≤ lv l := by
  induction l with
  | nil => simp [lv]
  | cons x l ih =>
    have h1 := h x (by simp)
    have h2 := ih fun y hy => h y (by simp [hy])
    simp only [lv]; omega
theorem lv_lt {l : List Int} (h : Wf l) : lv l < bp l.length := by
  induction l with
  | nil => simp [lv, bp]
  | cons x l ih =>
    have h1 := h x (by simp)
    have h2 := ih fun y hy => h y (by simp [hy])
    simp only [lv, List.length_cons, bp_succ]; omega
theorem lv_split (l : List Int) (n : Nat) (h : n ≤ l.length) : lv l = lv (l.take n) + bp n * lv (l.drop n) := by
  have := lv_app (l.take n) (l.drop n)
  rw [List.take_append_drop] at this
  rw [this, List.length_take, Nat.min_eq_left h]
theorem getD_lt {l : List Int} {i : Nat} (h : i < l.length) : l.getD i 0 = l[i] := by
  rw [List.getD_eq_getElem?_getD, List.getElem?_eq_getElem h]; rfl
theorem getD_ge {l : List Int} {i : Nat} (h : l.length ≤ i) : l.getD i 0 = 0 := by
  rw [List.getD_eq_getElem?_getD, List.getElem?_eq_none h]; rfl
theorem take_snoc {l : List Int} {i : Nat} (h : i < l.length) : l.take (i + 1) = l.take i ++ [l.getD i 0] := by
  rw [getD_lt h, List.take_succ_eq_append_getElem h]
theorem lv_take_succ {l : List Int} {i : Nat} (h : i < l.length) : lv (l.take (i + 1)) = lv (l.take i) + l.getD i 0 * bp i := by
  rw [take_snoc h, lv_snoc, List.length_take, Nat.min_eq_left (by omega)]
/-- .. beyond the end too. -/
theorem lv_take_succ' (l : List Int) (i : Nat) : lv (l.take (i + 1)) = lv (l.take i) + l.getD i 0 * bp i := by
  by_cases h : i < l.length
  · exact lv_take_succ h
  · rw [List.take_of_length_le (by omega), List.take_of_length_le (by omega), getD_ge (by omega)]; simp
theorem lv_drop {l : List Int} {i : Nat} (h : i < l.length) : lv (l.drop i) = l.getD i 0 + 1000000000 * lv (l.drop (i + 1)) := by
  rw [List.drop_eq_getElem_cons h, lv, getD_lt h]
theorem lv_set {l : List Int} {i : Nat} (h : i < l.length) (x : Int) : lv (l.set i x) = lv l + (x - l.getD i 0) * bp i := by
  induction l generalizing i with
  | nil => simp at h
  | cons y l ih =>
    cases i with
    | zero => simp [lv, bp]; omega
    | succ i =>
      simp only [List.set_cons_succ, lv, List.getD_cons_succ, bp_succ]
      rw [ih (by simpa using h)]
      grind
theorem set_getD {l : List Int} {i j : Nat} (h : i < l.length) (x : Int) : (l.set i x).getD j 0 = if i = j then x else l.getD j 0 := by
  rw [List.getD_eq_getElem?_getD, List.getElem?_set]
  split
  · rename_i e; subst e; simp [h]
  · rw [List.getD_eq_getElem?_getD]

/-! ### Natural numbers in canonical limbs -/
def limbs (n : Nat) : List Int := if h : n = 0 then [] else ((n % 1000000000 : Nat) : Int) :: limbs (n / 1000000000)
termination_by n
decreasing_by omega
theorem limbs_zero : limbs 0 = [] := by rw [limbs, dif_pos rfl]
theorem limbs_pos {n : Nat} (h : n ≠ 0) : limbs n = ((n % 1000000000 : Nat) : Int) :: limbs (n / 1000000000) := by rw [limbs, dif_neg h]
theorem limbs_wf (n : Nat) : Wf (limbs n) := by
  induction n using Nat.strongRecOn with
  | _ n ih =>
    by_cases h : n = 0
    · subst h; rw [limbs_zero]; exact Wf.nil
    · rw [limbs_pos h]; exact Wf.cons (by omega) (ih _ (by omega))
theorem lv_limbs (n : Nat) : lv (limbs n) = n := by
  induction n using Nat.strongRecOn with
  | _ n ih =>
    by_cases h : n = 0
    · subst h; rw [limbs_zero]; rfl
    · rw [limbs_pos h, lv, ih _ (by omega)]; omega
theorem limbs_nil {n : Nat} : limbs n = [] ↔ n = 0 := by
  constructor
  · intro h
    have := lv_limbs n
    rw [h] at this; simp [lv] at this; omega
  · rintro rfl; exact limbs_zero
theorem limbs_inj {m n : Nat} (h : limbs m = limbs n) : m = n := by
  have h1 := lv_limbs m
  rw [h, lv_limbs] at h1; omega
/-- The last limb is not 0. -/
theorem limbs_top (n i : Nat) (h : i + 1 = (limbs n).length) : (limbs n).getD i 0 ≠ 0 := by
  induction n using Nat.strongRecOn generalizing i with
  | _ n ih =>
    by_cases h0 : n = 0
    · subst h0; rw [limbs_zero] at h; simp at h
    · rw [limbs_pos h0] at h ⊢
      cases i with
      | zero =>
        simp only [List.length_cons] at h
        have : limbs (n / 1000000000) = [] := List.eq_nil_of_length_eq_zero (by omega)
        rw [limbs_nil] at this
        simp; omega
      | succ i =>
        simp only [List.length_cons] at h
        simpa using ih (n / 1000000000) (by omega) i (by omega)
theorem limbs_of {l : List Int} (h : Wf l) (ht : ∀ i, i + 1 = l.length → l.getD i 0 ≠ 0) : l = limbs (lv l).toNat := by
  induction l with
  | nil => simp [lv, limbs_zero]
  | cons x l ih =>
    have hx := h x (by simp)
    have hl : Wf l := fun y hy => h y (by simp [hy])
    have hn := lv_nonneg hl
    have ih' := ih hl fun i hi => by
      have := ht (i + 1) (by simp [hi])
      simpa using this
    have hpos : (lv (x :: l)).toNat ≠ 0 := by
      simp only [lv]
      cases l with
      | nil =>
        have := ht 0 (by simp)
        simp only [List.getD_cons_zero] at this
        simp only [lv]; omega
      | cons y l' =>
        have : lv (y :: l') ≠ 0 := by
          intro e
          rw [e] at ih'
          simp [limbs_zero] at ih'
        omega
    rw [limbs_pos hpos]
    have e1 : (lv (x :: l)).toNat / 1000000000 = (lv l).toNat := by simp only [lv]; omega
    have e2 : (((lv (x :: l)).toNat % 1000000000 : Nat) : Int) = x := by simp only [lv]; omega
    rw [e1, e2, ← ih']
theorem limbs_len_lt (n : Nat) : (n : Int) < bp (limbs n).length := by
  have := lv_lt (limbs_wf n)
  rwa [lv_limbs] at this
theorem limbs_len_ge {n : Nat} (h : n ≠ 0) : bp ((limbs n).length - 1) ≤ n := by
  induction n using Nat.strongRecOn with
  | _ n ih =>
    rw [limbs_pos h]
    by_cases h0 : n / 1000000000 = 0
    · rw [h0, limbs_zero]; simp [bp]; omega
    · have := ih (n / 1000000000) (by omega) h0
      have hl : (limbs (n / 1000000000)).length ≠ 0 := by
        intro e; exact h0 (limbs_nil.1 (List.eq_nil_of_length_eq_zero e))
      simp only [List.length_cons, Nat.add_sub_cancel]
      have e : (limbs (n / 1000000000)).length = ((limbs (n / 1000000000)).length - 1) + 1 := by omega
      rw [e, bp_succ]; omega
theorem bp_lt_iff {i j : Nat} (h : bp i < bp j) : i < j := by
  apply Nat.lt_of_not_le
  intro hle
  have := bp_le hle
  omega
theorem limbs_len_le {n k : Nat} (h : (n : Int) < bp k) : (limbs n).length ≤ k := by
  by_cases h0 : n = 0
  · subst h0; rw [limbs_zero]; simp
  · have := limbs_len_ge h0
    have h2 : (limbs n).length - 1 < k := bp_lt_iff (by omega)
    omega
theorem limbs_len_mono {m n : Nat} (h : m ≤ n) : (limbs m).length ≤ (limbs n).length :=
  limbs_len_le (by have := limbs_len_lt n; omega)
theorem limbs_len_add (m n : Nat) : (limbs (m + n)).length ≤ max (limbs m).length (limbs n).length + 1 := by
  apply limbs_len_le
  rw [bp_succ]
  have h1 := limbs_len_lt m
  have h2 := limbs_len_lt n
  have h3 := bp_le (Nat.le_max_left (limbs m).length (limbs n).length)
  have h4 := bp_le (Nat.le_max_right (limbs m).length (limbs n).length)
  omega
theorem limbs_len_mul (m n : Nat) : (limbs (m * n)).length ≤ (limbs m).length + (limbs n).length := by
  apply limbs_len_le
  rw [bp_add, Int.natCast_mul]
  have h1 := limbs_len_lt m
  have h2 := limbs_len_lt n
  exact Int.mul_lt_mul' (by omega) h2 (by omega) (by have := bp_pos (limbs m).length; omega)
theorem limbs_len_small {n : Nat} (h : n < 1000000000) : (limbs n).length ≤ 1 := limbs_len_le (by simp [bp]; omega)
theorem limbs_small {n : Nat} (h0 : n ≠ 0) (h : n < 1000000000) : limbs n = [(n : Int)] := by
  rw [limbs_pos h0, Nat.mod_eq_of_lt h, Nat.div_eq_of_lt h, limbs_zero]
end Go.AM.Num
end
section
set_option linter.unusedSimpArgs false
set_option linter.unusedVariables false
namespace Go.AM.Num

theorem maxN_eq : maxN = 68719476736 := rfl

theorem trim_eq {l : List Int} (hw : Wf l) (hl : l.length ≤ 1000000000000) : n_nat_trim l = some ((limbs (lv l).toNat, ()), ()) := by
  obtain ⟨r, hr, n, rfl, hn, hz, ht⟩ := loopO_ind (step := n_nat_trim_s2) (Q := fun r => ∃ n : Nat, r = (Ex.exit 0, (l, (n : Int), ())) ∧ n ≤ l.length ∧ lv (l.drop n) = 0 ∧ ∀ i, i + 1 = n → l.getD i 0 ≠ 0)
    (fun m x => x = (l, (m : Int), ()) ∧ m ≤ l.length ∧ lv (l.drop m) = 0) (by
      rintro n x ⟨rfl, hn, hz⟩
      by_cases h0 : n = 0
      · subst h0
        refine .inl ⟨_, ?_, ?_, 0, rfl, hn, hz, by omega⟩
        · simp (disch := omega) only [n_nat_trim_s2, cond_df]
        · simp
      · have e : ((n : Int) - 1).toNat = n - 1 := by omega
        have hi : n - 1 < l.length := by omega
        by_cases hx : l.getD (n - 1) 0 = 0
        · refine .inr ⟨n - 1, _, ?_, by omega, rfl, by omega, ?_⟩
          · simp (disch := omega) only [n_nat_trim_s2, cond_dt, grd_and, grd_dec, w64, e, cond_et]
            rw [show ((n : Int) - 1) = ((n - 1 : Nat) : Int) by omega]
          · rw [lv_drop hi, hx, show n - 1 + 1 = n by omega, hz]; rfl
        · refine .inl ⟨_, ?_, ?_, n, rfl, hn, hz, fun i hi' => by rw [show i = n - 1 by omega]; exact hx⟩
          · simp (disch := omega) only [n_nat_trim_s2, cond_dt, grd_and, grd_dec, w64, e, cond_ef]
          · simp) l.length (l, (l.length : Int), ()) ⟨rfl, Nat.le_refl _, by rw [List.drop_length]; rfl⟩
  unfold n_nat_trim
  rw [hr]
  have e : ((n : Int)).toNat = n := by omega
  simp (disch := omega) only [bind_some', same_ee, cond_t, grd_and, grd_dec, e]
  congr 2
  congr 1
  rw [limbs_of (hw.take n) (fun i hi => by
    rw [List.length_take, Nat.min_eq_left hn] at hi
    have : (l.take n).getD i 0 = l.getD i 0 := by
      rw [List.getD_eq_getElem?_getD, List.getElem?_take, if_pos (by omega), List.getD_eq_getElem?_getD]
    rw [this]; exact ht i hi)]
  have := lv_split l n hn
  rw [hz] at this
  rw [this]; simp

theorem at_eq (l : List Int) {i : Int} (h0 : 0 ≤ i) : n_nat_at l i = some ((l.getD i.toNat 0, ()), ()) := by
  unfold n_nat_at
  by_cases h : i < l.length
  · simp (disch := omega) only [cond_df, cond_dt, grd_and, grd_dec]
  · simp (disch := omega) only [cond_df, cond_dt, grd_and, grd_dec]
    rw [getD_ge (by omega)]

theorem one_eq (n : Nat) : n_nat_one (limbs n) = some ((decide (n = 1), ()), ()) := by
  unfold n_nat_one
  by_cases h0 : n = 0
  · subst h0; rw [limbs_zero]; simp [cond]
  · by_cases hl : (limbs n).length = 1
    · have hlt : n < 1000000000 := by
        have := limbs_len_lt n
        rw [hl] at this; simp [bp] at this; omega
      rw [limbs_small h0 hlt]
      simp (disch := (first | omega | (simp only [maxN_eq, List.length_append, List.length_cons, List.length_nil, List.length_set, List.length_replicate, List.length_take, List.length_drop]; omega))) only [grd_tt, grd_and, grd_dec, grd_ne, cond_dt, cond_df, cond_et, cond_ef, cond_nt, cond_nf, w64, wu64, wu32, wu8, tm, td, bind_some', same_ee, same_er, same_re, same_rr, cond_t, cond_f]
      by_cases h1 : n = 1
      · subst h1; rfl
      · have e : ((n : Int) == 1) = false := by rw [beq_eq_false_iff_ne]; omega
        show some (((n : Int) == 1, ()), ()) = _
        rw [e, decide_eq_false h1]
    · have : n ≠ 1 := by rintro rfl; exact hl (by rw [limbs_small (by decide) (by decide)]; rfl)
      simp (disch := (first | omega | (simp only [maxN_eq, List.length_append, List.length_cons, List.length_nil, List.length_set, List.length_replicate, List.length_take, List.length_drop]; omega))) only [grd_tt, grd_and, grd_dec, grd_ne, cond_dt, cond_df, cond_et, cond_ef, cond_nt, cond_nf, w64, wu64, wu32, wu8, tm, td, bind_some', same_ee, same_er, same_re, same_rr, cond_t, cond_f]
      simp [this]

theorem maxA_len (a b : Nat) : maxA (a : Int) (b : Int) = ((max a b : Nat) : Int) := by
  rw [maxA_def]; split <;> omega

theorem add_lv {a b : List Int} (ha : Wf a) (hb : Wf b) (hal : a.length ≤ 1000000000) (hbl : b.length ≤ 1000000000) : n_nat_add a b = some ((limbs (lv a + lv b).toNat, ()), ()) := by
  obtain ⟨K, hK⟩ : ∃ K, K = max a.length b.length := ⟨_, rfl⟩
  have hKe := maxA_len a.length b.length
  rw [← hK] at hKe
  have hK1 : K ≤ 1000000000 := by omega
  obtain ⟨r, hr, out, c, rfl, ho, hw, hc, hv⟩ := loopO_ind (step := n_nat_add_s4) (Q := fun r => ∃ (out : List Int) (c : Int), r = (Ex.exit 0, (a, b, out, c, (K : Int), (K : Int), ())) ∧ out.length = K ∧ Wf out ∧ (0 ≤ c ∧ c ≤ 1) ∧ lv out + c * bp K = lv a + lv b)
    (fun m x => ∃ (k : Nat) (out : List Int) (c : Int), x = (a, b, out, c, (K : Int), (k : Int), ()) ∧ m + k = K ∧ out.length = k ∧ Wf out ∧ (0 ≤ c ∧ c ≤ 1) ∧ lv out + c * bp k = lv (a.take k) + lv (b.take k)) (by
      rintro m x ⟨k, out, c, rfl, hm, ho, hw, hc, hv⟩
      by_cases hlt : k < K
      · have h1 := ha.at k
        have h2 := hb.at k
        have hk : (k : Int).toNat = k := by omega
        have e1 := at_eq a (i := (k : Int)) (by omega)
        have e2 := at_eq b (i := (k : Int)) (by omega)
        rw [hk] at e1 e2
        refine .inr ⟨m - 1, (a, b, out ++ [(a.getD k 0 + b.getD k 0 + c) % 1000000000], (a.getD k 0 + b.getD k 0 + c) / 1000000000, (K : Int), ((k + 1 : Nat) : Int), ()), ?_, by omega, k + 1, _, _, rfl, by omega, by simp [ho], hw.app (Wf.one (by omega)), by omega, ?_⟩
        · simp (disch := (first | omega | (simp only [maxN_eq, List.length_append, List.length_cons, List.length_nil, List.length_set, List.length_replicate, List.length_take, List.length_drop]; omega))) only [n_nat_add_s4, e1, e2, grd_tt, grd_and, grd_dec, grd_ne, cond_dt, cond_df, cond_et, cond_ef, cond_nt, cond_nf, w64, wu64, wu32, wu8, tm, td, bind_some', same_ee, same_er, same_re, same_rr, cond_t, cond_f]
          rfl
        · rw [lv_snoc, ho, lv_take_succ', lv_take_succ', bp_succ]
          have := Int.emod_add_mul_ediv (a.getD k 0 + b.getD k 0 + c) 1000000000
          grind
      · refine .inl ⟨(Ex.exit 0, (a, b, out, c, (K : Int), (K : Int), ())), ?_, by simp, out, c, rfl, by omega, hw, hc, ?_⟩
        · simp (disch := (first | omega | (simp only [maxN_eq, List.length_append, List.length_cons, List.length_nil, List.length_set, List.length_replicate, List.length_take, List.length_drop]; omega))) only [n_nat_add_s4, grd_tt, grd_and, grd_dec, grd_ne, cond_dt, cond_df, cond_et, cond_ef, cond_nt, cond_nf, w64, wu64, wu32, wu8, tm, td, bind_some', same_ee, same_er, same_re, same_rr, cond_t, cond_f]
          rw [show k = K by omega]
        · rw [List.take_of_length_le (by omega), List.take_of_length_le (by omega)] at hv
          rw [← hv, show k = K by omega]) K (a, b, List.replicate (0 : Int).toNat 0, 0, (K : Int), 0, ()) ⟨0, [], 0, rfl, by omega, rfl, Wf.nil, by omega, by simp [lv]⟩
  unfold n_nat_add
  have hcw := hw.app (Wf.one (x := c) (by omega))
  rw [hKe, hr]
  have ht := trim_eq hcw (by simp; omega)
  simp (disch := (first | omega | (simp only [maxN_eq, List.length_append, List.length_cons, List.length_nil, List.length_set, List.length_replicate, List.length_take, List.length_drop]; omega))) only [ht, grd_tt, grd_and, grd_dec, grd_ne, cond_dt, cond_df, cond_et, cond_ef, cond_nt, cond_nf, w64, wu64, wu32, wu8, tm, td, bind_some', same_ee, same_er, same_re, same_rr, cond_t, cond_f]
  rw [lv_snoc, ho, hv]
theorem add_eq (m n : Nat) (hm : (limbs m).length ≤ 1000000000) (hn : (limbs n).length ≤ 1000000000) : n_nat_add (limbs m) (limbs n) = some ((limbs (m + n), ()), ()) := by
  rw [add_lv (limbs_wf m) (limbs_wf n) hm hn, lv_limbs, lv_limbs, show ((m : Int) + n).toNat = m + n by omega]
end Go.AM.Num
end
section
set_option linter.unusedSimpArgs false
set_option linter.unusedVariables false
namespace Go.AM.Num

theorem sub_lv {a b : List Int} (ha : Wf a) (hb : Wf b) (hal : a.length ≤ 1000000000) (hbl : b.length ≤ a.length) (hle : lv b ≤ lv a) : n_nat_sub a b = some ((limbs (lv a - lv b).toNat, ()), ()) := by
  obtain ⟨K, hK⟩ : ∃ K, K = a.length := ⟨_, rfl⟩
  obtain ⟨r, hr, out, c, rfl, ho, hw, hc, hv⟩ := loopO_ind (step := n_nat_sub_s4) (Q := fun r => ∃ (out : List Int) (c : Int), r = (Ex.exit 0, (a, b, out, c, (K : Int), (K : Int), ())) ∧ out.length = K ∧ Wf out ∧ (0 ≤ c ∧ c ≤ 1) ∧ lv out - c * bp K = lv a - lv b)
    (fun m x => ∃ (k : Nat) (out : List Int) (c : Int), x = (a, b, out, c, (K : Int), (k : Int), ()) ∧ m + k = K ∧ out.length = k ∧ Wf out ∧ (0 ≤ c ∧ c ≤ 1) ∧ lv out - c * bp k = lv (a.take k) - lv (b.take k)) (by
      rintro m x ⟨k, out, c, rfl, hm, ho, hw, hc, hv⟩
      by_cases hlt : k < K
      · have h1 := ha.at k
        have h2 := hb.at k
        have hk : (k : Int).toNat = k := by omega
        have e2 := at_eq b (i := (k : Int)) (by omega)
        rw [hk] at e2
        by_cases hneg : a.getD k 0 - b.getD k 0 - c < 0
        · refine .inr ⟨m - 1, (a, b, out ++ [a.getD k 0 - b.getD k 0 - c + 1000000000], 1, (K : Int), ((k + 1 : Nat) : Int), ()), ?_, by omega, k + 1, _, _, rfl, by omega, by simp [ho], hw.app (Wf.one (by omega)), by omega, ?_⟩
          · simp (disch := (first | omega | (simp only [maxN_eq, List.length_append, List.length_cons, List.length_nil, List.length_set, List.length_replicate, List.length_take, List.length_drop]; omega))) only [n_nat_sub_s4, e2, hk, grd_tt, grd_and, grd_dec, grd_ne, cond_dt, cond_df, cond_et, cond_ef, cond_nt, cond_nf, w64, wu64, wu32, wu8, tm, td, bind_some', same_ee, same_er, same_re, same_rr, cond_t, cond_f]
            rfl
          · rw [lv_snoc, ho, lv_take_succ', lv_take_succ', bp_succ]
            grind
        · refine .inr ⟨m - 1, (a, b, out ++ [a.getD k 0 - b.getD k 0 - c], 0, (K : Int), ((k + 1 : Nat) : Int), ()), ?_, by omega, k + 1, _, _, rfl, by omega, by simp [ho], hw.app (Wf.one (by omega)), by omega, ?_⟩
          · simp (disch := (first | omega | (simp only [maxN_eq, List.length_append, List.length_cons, List.length_nil, List.length_set, List.length_replicate, List.length_take, List.length_drop]; omega))) only [n_nat_sub_s4, e2, hk, grd_tt, grd_and, grd_dec, grd_ne, cond_dt, cond_df, cond_et, cond_ef, cond_nt, cond_nf, w64, wu64, wu32, wu8, tm, td, bind_some', same_ee, same_er, same_re, same_rr, cond_t, cond_f]
            rfl
          · rw [lv_snoc, ho, lv_take_succ', lv_take_succ', bp_succ]
            grind
      · refine .inl ⟨(Ex.exit 0, (a, b, out, c, (K : Int), (K : Int), ())), ?_, by simp, out, c, rfl, by omega, hw, hc, ?_⟩
        · simp (disch := (first | omega | (simp only [maxN_eq, List.length_append, List.length_cons, List.length_nil, List.length_set, List.length_replicate, List.length_take, List.length_drop]; omega))) only [n_nat_sub_s4, grd_tt, grd_and, grd_dec, grd_ne, cond_dt, cond_df, cond_et, cond_ef, cond_nt, cond_nf, w64, wu64, wu32, wu8, tm, td, bind_some', same_ee, same_er, same_re, same_rr, cond_t, cond_f]
          rw [show k = K by omega]
        · rw [List.take_of_length_le (by omega), List.take_of_length_le (by omega)] at hv
          rw [← hv, show k = K by omega]) K (a, b, List.replicate (0 : Int).toNat 0, 0, (K : Int), 0, ()) ⟨0, [], 0, rfl, by omega, rfl, Wf.nil, by omega, by simp [lv]⟩
  have hc0 : c = 0 := by
    have h1 := lv_lt hw
    rw [ho] at h1
    rcases (show c = 0 ∨ c = 1 by omega) with h | h
    · exact h
    · subst h; omega
  subst hc0
  unfold n_nat_sub
  rw [← hK, hr]
  have ht := trim_eq hw (by omega)
  simp (disch := (first | omega | (simp only [maxN_eq, List.length_append, List.length_cons, List.length_nil, List.length_set, List.length_replicate, List.length_take, List.length_drop]; omega))) only [ht, grd_tt, grd_and, grd_dec, grd_ne, cond_dt, cond_df, cond_et, cond_ef, cond_nt, cond_nf, w64, wu64, wu32, wu8, tm, td, bind_some', same_ee, same_er, same_re, same_rr, cond_t, cond_f]
  rw [← hv]; simp
theorem limbs_le {m n : Nat} (h : n ≤ m) : (limbs n).length ≤ (limbs m).length := limbs_len_mono h
theorem sub_eq (m n : Nat) (hm : (limbs m).length ≤ 1000000000) (h : n ≤ m) : n_nat_sub (limbs m) (limbs n) = some ((limbs (m - n), ()), ()) := by
  rw [sub_lv (limbs_wf m) (limbs_wf n) hm (limbs_le h) (by rw [lv_limbs, lv_limbs]; omega), lv_limbs, lv_limbs, show ((m : Int) - n).toNat = m - n by omega]

/-- What decides between two rows of limbs: the highest place at which they differ. -/
theorem lv_lt_of_top {a b : List Int} (ha : Wf a) (hb : Wf b) {i : Nat} (hal : i < a.length) (hbl : i < b.length) (hd : a.drop (i + 1) = b.drop (i + 1)) (h : a.getD i 0 < b.getD i 0) : lv a < lv b := by
  have h1 := lv_split a i (by omega)
  have h2 := lv_split b i (by omega)
  rw [lv_drop hal, hd] at h1
  rw [lv_drop hbl] at h2
  have h3 := lv_lt (ha.take i)
  have h4 := lv_nonneg (hb.take i)
  rw [List.length_take, Nat.min_eq_left (by omega)] at h3
  have h5 := bp_pos i
  have h6 : bp i * (a.getD i 0 + 1) ≤ bp i * b.getD i 0 := Int.mul_le_mul_of_nonneg_left (by omega) (by omega)
  rw [Int.mul_add] at h1 h2 h6
  omega
theorem lt_of_len {a b : List Int} (ha : Wf a) (hb : Wf b) (ht : b.getD (b.length - 1) 0 ≠ 0) (h : a.length < b.length) : lv a < lv b := by
  have h1 := lv_lt ha
  have h2 := lv_split b (b.length - 1) (by omega)
  rw [lv_drop (by omega), show b.length - 1 + 1 = b.length by omega, List.drop_length] at h2
  have h4 := lv_nonneg (hb.take (b.length - 1))
  have h5 := hb.at (b.length - 1)
  have h6 := bp_le (show a.length ≤ b.length - 1 by omega)
  have h7 := bp_pos (b.length - 1)
  have h8 : bp (b.length - 1) * 1 ≤ bp (b.length - 1) * b.getD (b.length - 1) 0 := Int.mul_le_mul_of_nonneg_left (by omega) (by omega)
  simp only [lv] at h2
  rw [Int.mul_add] at h2
  omega

theorem cmp_eq (m n : Nat) (hm : (limbs m).length ≤ 1000000000) (hn : (limbs n).length ≤ 1000000000) : ∃ c, n_nat_cmp (limbs m) (limbs n) = some ((c, ()), ()) ∧ (c < 0 ↔ m < n) ∧ (c = 0 ↔ m = n) := by
  have ha := limbs_wf m
  have hb := limbs_wf n
  have hma := lv_limbs m
  have hnb := lv_limbs n
  by_cases hl : (limbs m).length = (limbs n).length
  · obtain ⟨a, hae⟩ : ∃ a, a = limbs m := ⟨_, rfl⟩
    obtain ⟨b, hbe⟩ : ∃ b, b = limbs n := ⟨_, rfl⟩
    rw [← hae] at ha hma hl hm ⊢
    rw [← hbe] at hb hnb hl hn ⊢
    obtain ⟨r, hr, hq⟩ := loopO_ind (step := n_nat_cmp_s4) (Q := fun r => (∃ x, r = (Ex.exit 0, x) ∧ lv a = lv b) ∨ (∃ c i, r = (Ex.ret, (a, b, c, i, ())) ∧ (c < 0 ↔ lv a < lv b) ∧ c ≠ 0 ∧ lv a ≠ lv b))
      (fun k x => x = (a, b, 0, (k : Int) - 1, ()) ∧ k ≤ a.length ∧ a.drop k = b.drop k) (by
        rintro k x ⟨rfl, hk, hd⟩
        by_cases h0 : k = 0
        · subst h0
          refine .inl ⟨(Ex.exit 0, (a, b, 0, ((0 : Nat) : Int) - 1, ())), ?_, ?_, .inl ⟨_, rfl, by simpa using congrArg lv hd⟩⟩
          · simp (disch := (first | omega | (simp only [maxN_eq, List.length_append, List.length_cons, List.length_nil, List.length_set, List.length_replicate, List.length_take, List.length_drop]; omega))) only [n_nat_cmp_s4, grd_tt, grd_and, grd_dec, grd_ne, cond_dt, cond_df, cond_et, cond_ef, cond_nt, cond_nf, w64, wu64, wu32, wu8, tm, td, bind_some', same_ee, same_er, same_re, same_rr, cond_t, cond_f]
          · simp
        · have e : ((k : Int) - 1).toNat = k - 1 := by omega
          have h1 := ha.at (k - 1)
          have h2 := hb.at (k - 1)
          by_cases hx : a.getD (k - 1) 0 = b.getD (k - 1) 0
          · refine .inr ⟨k - 1, _, ?_, by omega, rfl, by omega, ?_⟩
            · simp (disch := (first | omega | (simp only [maxN_eq, List.length_append, List.length_cons, List.length_nil, List.length_set, List.length_replicate, List.length_take, List.length_drop]; omega))) only [n_nat_cmp_s4, e, grd_tt, grd_and, grd_dec, grd_ne, cond_dt, cond_df, cond_et, cond_ef, cond_nt, cond_nf, w64, wu64, wu32, wu8, tm, td, bind_some', same_ee, same_er, same_re, same_rr, cond_t, cond_f]
              rw [show ((k - 1 : Nat) : Int) - 1 = (k : Int) - 1 - 1 by omega]
            · rw [List.drop_eq_getElem_cons (show k - 1 < a.length by omega), List.drop_eq_getElem_cons (show k - 1 < b.length by omega), show k - 1 + 1 = k by omega, hd]
              rw [getD_lt (by omega), getD_lt (by omega)] at hx
              rw [hx]
          · have hd' : a.drop (k - 1 + 1) = b.drop (k - 1 + 1) := by rw [show k - 1 + 1 = k by omega]; exact hd
            refine .inl ⟨_, ?_, ?_, .inr ⟨a.getD (k - 1) 0 - b.getD (k - 1) 0, (k : Int) - 1, rfl, ?_, by omega, ?_⟩⟩
            · simp (disch := (first | omega | (simp only [maxN_eq, List.length_append, List.length_cons, List.length_nil, List.length_set, List.length_replicate, List.length_take, List.length_drop]; omega))) only [n_nat_cmp_s4, e, grd_tt, grd_and, grd_dec, grd_ne, cond_dt, cond_df, cond_et, cond_ef, cond_nt, cond_nf, w64, wu64, wu32, wu8, tm, td, bind_some', same_ee, same_er, same_re, same_rr, cond_t, cond_f]
            · simp
            · constructor
              · intro h; exact lv_lt_of_top ha hb (by omega) (by omega) hd' (by omega)
              · intro h
                by_cases hy : a.getD (k - 1) 0 < b.getD (k - 1) 0
                · omega
                · have := lv_lt_of_top hb ha (i := k - 1) (by omega) (by omega) hd'.symm (by omega)
                  omega
            · intro h
              by_cases hy : a.getD (k - 1) 0 < b.getD (k - 1) 0
              · have := lv_lt_of_top ha hb (i := k - 1) (by omega) (by omega) hd' (by omega)
                omega
              · have := lv_lt_of_top hb ha (i := k - 1) (by omega) (by omega) hd'.symm (by omega)
                omega) a.length (a, b, 0, (a.length : Int) - 1, ()) ⟨rfl, Nat.le_refl _, by rw [List.drop_length, hl, List.drop_length]⟩
    rcases hq with ⟨x, rfl, he⟩ | ⟨c, i, rfl, h1, h2, h3⟩
    · refine ⟨0, ?_, ?_, ?_⟩
      · unfold n_nat_cmp
        simp (disch := (first | omega | (simp only [maxN_eq, List.length_append, List.length_cons, List.length_nil, List.length_set, List.length_replicate, List.length_take, List.length_drop]; omega))) only [hr, grd_tt, grd_and, grd_dec, grd_ne, cond_dt, cond_df, cond_et, cond_ef, cond_nt, cond_nf, w64, wu64, wu32, wu8, tm, td, bind_some', same_ee, same_er, same_re, same_rr, cond_t, cond_f]
      · omega
      · omega
    · refine ⟨c, ?_, ?_, ?_⟩
      · unfold n_nat_cmp
        simp (disch := (first | omega | (simp only [maxN_eq, List.length_append, List.length_cons, List.length_nil, List.length_set, List.length_replicate, List.length_take, List.length_drop]; omega))) only [hr, grd_tt, grd_and, grd_dec, grd_ne, cond_dt, cond_df, cond_et, cond_ef, cond_nt, cond_nf, w64, wu64, wu32, wu8, tm, td, bind_some', same_ee, same_er, same_re, same_rr, cond_t, cond_f]
      · omega
      · omega
  · have hcases : (limbs m).length < (limbs n).length ∧ m < n ∨ (limbs n).length < (limbs m).length ∧ n < m := by
      rcases Nat.lt_or_ge (limbs m).length (limbs n).length with h | h
      · refine .inl ⟨h, ?_⟩
        have := lt_of_len ha hb (limbs_top n _ (by omega)) h
        omega
      · have h' : (limbs n).length < (limbs m).length := by omega
        refine .inr ⟨h', ?_⟩
        have := lt_of_len hb ha (limbs_top m _ (by omega)) h'
        omega
    refine ⟨((limbs m).length : Int) - (limbs n).length, ?_, ?_, ?_⟩
    · unfold n_nat_cmp
      simp (disch := (first | omega | (simp only [maxN_eq, List.length_append, List.length_cons, List.length_nil, List.length_set, List.length_replicate, List.length_take, List.length_drop]; omega))) only [grd_tt, grd_and, grd_dec, grd_ne, cond_dt, cond_df, cond_et, cond_ef, cond_nt, cond_nf, w64, wu64, wu32, wu8, tm, td, bind_some', same_ee, same_er, same_re, same_rr, cond_t, cond_f]
    · omega
    · omega
end Go.AM.Num
end
section
set_option linter.unusedSimpArgs false
set_option linter.unusedVariables false
namespace Go.AM.Num

/-! ### Decimal digits, the highest first -/
def dig (c : UInt8) : Nat := c.toNat - 48
def isD (c : UInt8) : Prop := 48 ≤ c.toNat ∧ c.toNat ≤ 57
def AllD (s : List UInt8) : Prop := ∀ c ∈ s, isD c
def dval (s : List UInt8) : Nat := s.foldl (fun v c => 10 * v + dig c) 0
theorem dval_nil : dval [] = 0 := rfl
theorem dval_snoc (s : List UInt8) (c : UInt8) : dval (s ++ [c]) = 10 * dval s + dig c := by simp [dval]
theorem dval_foldl (s : List UInt8) (v : Nat) : s.foldl (fun v c => 10 * v + dig c) v = v * 10 ^ s.length + dval s := by
  induction s generalizing v with
  | nil => simp [dval]
  | cons c s ih =>
    simp only [List.foldl_cons, dval, List.length_cons, Nat.pow_succ]
    rw [ih (10 * v + dig c), ih (10 * 0 + dig c)]
    grind
theorem dval_app (a b : List UInt8) : dval (a ++ b) = dval a * 10 ^ b.length + dval b := by
  show (a ++ b).foldl (fun v c => 10 * v + dig c) 0 = _
  rw [List.foldl_append, dval_foldl]
  rfl
theorem dval_cons (c : UInt8) (s : List UInt8) : dval (c :: s) = dig c * 10 ^ s.length + dval s := by
  have := dval_app [c] s
  simpa [dval] using this
theorem AllD.app {a b : List UInt8} (ha : AllD a) (hb : AllD b) : AllD (a ++ b) := fun c hc => (List.mem_append.1 hc).elim (ha c) (hb c)
theorem AllD.take {s : List UInt8} (h : AllD s) (n : Nat) : AllD (s.take n) := fun c hc => h c (List.mem_of_mem_take hc)
theorem AllD.drop {s : List UInt8} (h : AllD s) (n : Nat) : AllD (s.drop n) := fun c hc => h c (List.mem_of_mem_drop hc)
theorem dig_lt {c : UInt8} (h : isD c) : dig c < 10 := by unfold dig; have := h.2; omega
theorem dval_lt {s : List UInt8} (h : AllD s) : dval s < 10 ^ s.length := by
  induction s with
  | nil => simp [dval]
  | cons c s ih =>
    have h1 := dig_lt (h c (by simp))
    have h2 := ih fun c' hc' => h c' (by simp [hc'])
    rw [dval_cons, List.length_cons, Nat.pow_succ]
    have : dig c * 10 ^ s.length ≤ 9 * 10 ^ s.length := Nat.mul_le_mul_right _ (by omega)
    omega
theorem bp_ten (k : Nat) : bp k = ((10 ^ (9 * k) : Nat) : Int) := by
  induction k with
  | zero => rfl
  | succ k ih => rw [bp_succ, ih, show 9 * (k + 1) = 9 * k + 9 by omega, Nat.pow_add]; simp; omega

theorem natOf_s7_eq (s : List UInt8) (out : List Int) (e : Int) (ch : List UInt8) (hd : AllD ch) (hl : ch.length ≤ 9) :
    loopO n_natOf_s7 (s, out, e, 0, ch.map (fun b => (b.toNat : Int)), (ch.length : Int), 0, ()) = some (Ex.exit 2, (s, out, e, (dval ch : Int), ch.map (fun b => (b.toNat : Int)), (ch.length : Int), (ch.length : Int), ())) := by
  obtain ⟨r, hr, rfl⟩ := loopO_ind (step := n_natOf_s7) (Q := fun r => r = (Ex.exit 2, (s, out, e, (dval ch : Int), ch.map (fun b => (b.toNat : Int)), (ch.length : Int), (ch.length : Int), ())))
    (fun m x => ∃ k : Nat, m + k = ch.length ∧ x = (s, out, e, (dval (ch.take k) : Int), ch.map (fun b => (b.toNat : Int)), (ch.length : Int), (k : Int), ())) (by
      rintro m x ⟨k, hm, rfl⟩
      by_cases hk : k < ch.length
      · have hc := hd _ (List.getElem_mem hk)
        have hg : (ch.map (fun b => (b.toNat : Int))).getD k 0 = (ch[k].toNat : Int) := by
          rw [List.getD_eq_getElem?_getD, List.getElem?_map, List.getElem?_eq_getElem hk]; rfl
        have hlt := dval_lt (hd.take k)
        have hp : 10 ^ (ch.take k).length ≤ 10 ^ 8 := Nat.pow_le_pow_right (by decide) (by rw [List.length_take]; omega)
        have hs : dval (ch.take (k + 1)) = 10 * dval (ch.take k) + dig ch[k] := by
          rw [List.take_succ_eq_append_getElem hk, dval_snoc]
        have hk' : (k : Int).toNat = k := by omega
        have h1 := hc.1
        have h2 := hc.2
        have hdig : (dig ch[k] : Int) = (ch[k].toNat : Int) - 48 := by unfold dig; omega
        refine .inr ⟨m - 1, _, ?_, by omega, k + 1, by omega, rfl⟩
        · rw [hs]
          have hml : (ch.map (fun b => (b.toNat : Int))).length = ch.length := by simp
          simp (disch := (first | omega | (simp only [maxN_eq, List.length_append, List.length_cons, List.length_nil, List.length_set, List.length_replicate, List.length_take, List.length_drop]; omega))) only [n_natOf_s7, hk', hg, hml, grd_tt, grd_and, grd_dec, grd_ne, cond_dt, cond_df, cond_et, cond_ef, cond_nt, cond_nf, w64, wu64, wu32, wu8, tm, td, bind_some', same_ee, same_er, same_re, same_rr, cond_t, cond_f]
          rw [show ((10 * dval (ch.take k) + dig ch[k] : Nat) : Int) = (dval (ch.take k) : Int) * 10 + ((ch[k].toNat : Int) - 48) by omega]
          rfl
      · refine .inl ⟨_, ?_, ?_, rfl⟩
        · simp (disch := (first | omega | (simp only [maxN_eq, List.length_append, List.length_cons, List.length_nil, List.length_set, List.length_replicate, List.length_take, List.length_drop]; omega))) only [n_natOf_s7, grd_tt, grd_and, grd_dec, grd_ne, cond_dt, cond_df, cond_et, cond_ef, cond_nt, cond_nf, w64, wu64, wu32, wu8, tm, td, bind_some', same_ee, same_er, same_re, same_rr, cond_t, cond_f]
          rw [show k = ch.length by omega, List.take_length]
        · simp) ch.length _ ⟨0, by omega, rfl⟩
  exact hr

theorem natOf_eq {s : List UInt8} (hd : AllD s) (hl : s.length ≤ 1000000000) : n_natOf s = some ((limbs (dval s), ()), ()) := by
  obtain ⟨r, hr, out, e, rfl, ho, hw, hv⟩ := loopO_ind (step := n_natOf_s3) (Q := fun r => ∃ (out : List Int) (e : Int), r = (Ex.exit 0, (s, out, e, ())) ∧ out.length ≤ s.length + 1 ∧ Wf out ∧ lv out = dval s)
    (fun m x => ∃ (k : Nat) (out : List Int), x = (s, out, (s.length : Int) - 9 * k, ()) ∧ m + 9 * k = s.length + 9 ∧ out.length = k ∧ Wf out ∧ lv out = dval (s.drop (s.length - 9 * k))) (by
      rintro m x ⟨k, out, rfl, hm, ho, hw, hv⟩
      by_cases hpos : 9 * k < s.length
      · obtain ⟨lo, hlo⟩ : ∃ lo : Nat, lo = s.length - 9 * k - 9 := ⟨_, rfl⟩
        obtain ⟨hi, hhi⟩ : ∃ hi : Nat, hi = s.length - 9 * k := ⟨_, rfl⟩
        have hie : (s.length : Int) - 9 * k = (hi : Int) := by omega
        have hmx : maxA ((hi : Int) - 9) 0 = (lo : Int) := by rw [maxA_def]; split <;> omega
        have hin : (hi : Int).toNat = hi := by omega
        have hln : (lo : Int).toNat = lo := by omega
        obtain ⟨ch, hch⟩ : ∃ ch, ch = (s.take hi).drop lo := ⟨_, rfl⟩
        have hchl : ch.length = hi - lo := by rw [hch, List.length_drop, List.length_take]; omega
        have hcd : AllD ch := by rw [hch]; exact (hd.take hi).drop lo
        have hlt := dval_lt hcd
        have hp : 10 ^ ch.length ≤ 10 ^ 9 := Nat.pow_le_pow_right (by decide) (by omega)
        have hin7 := natOf_s7_eq s out (hi : Int) ch hcd (by omega)
        have hsplit : s.drop lo = ch ++ s.drop hi := by
          rw [hch]
          have h1 : s = s.take hi ++ s.drop hi := (List.take_append_drop hi s).symm
          conv => lhs; rw [h1, List.drop_append_of_le_length (by rw [List.length_take]; omega)]
        rw [hie]
        refine .inr ⟨m - 9, (s, out ++ [(dval ch : Int)], (hi : Int) - 9, ()), ?_, by omega, k + 1, out ++ [(dval ch : Int)], ?_, by omega, by simp [ho], hw.app (Wf.one (by omega)), ?_⟩
        · have hcl : ((ch.map (fun b => (b.toNat : Int))).length : Int) = (ch.length : Int) := by simp
          have hmap : ((s.take hi).drop lo).map (fun b => (b.toNat : Int)) = ch.map (fun b => (b.toNat : Int)) := by rw [hch]
          simp (disch := (first | omega | (simp only [maxN_eq, List.length_append, List.length_cons, List.length_nil, List.length_set, List.length_replicate, List.length_take, List.length_drop]; omega))) only [n_natOf_s3, hmx, hin, hln, hmap, hcl, hin7, grd_tt, grd_and, grd_dec, grd_ne, cond_dt, cond_df, cond_et, cond_ef, cond_nt, cond_nf, w64, wu64, wu32, wu8, tm, td, bind_some', same_ee, same_er, same_re, same_rr, cond_t, cond_f]
        · rw [show (s.length : Int) - 9 * ((k + 1 : Nat) : Int) = (hi : Int) - 9 by omega]
        · rw [lv_snoc, ho, hv, ← hhi, show s.length - 9 * (k + 1) = lo by omega, hsplit, dval_app, bp_ten, List.length_drop, show s.length - hi = 9 * k by omega]
          simp; omega
      · refine .inl ⟨(Ex.exit 0, (s, out, (s.length : Int) - 9 * k, ())), ?_, by simp, out, _, rfl, by omega, hw, ?_⟩
        · simp (disch := (first | omega | (simp only [maxN_eq, List.length_append, List.length_cons, List.length_nil, List.length_set, List.length_replicate, List.length_take, List.length_drop]; omega))) only [n_natOf_s3, grd_tt, grd_and, grd_dec, grd_ne, cond_dt, cond_df, cond_et, cond_ef, cond_nt, cond_nf, w64, wu64, wu32, wu8, tm, td, bind_some', same_ee, same_er, same_re, same_rr, cond_t, cond_f]
        · rw [hv, show s.length - 9 * k = 0 by omega, List.drop_zero]) (s.length + 9) (s, [], (s.length : Int), ()) ⟨0, [], by simp, by omega, rfl, Wf.nil, by simp [lv, dval]⟩
  unfold n_natOf
  rw [hr]
  have ht := trim_eq hw (by omega)
  simp (disch := (first | omega | (simp only [maxN_eq, List.length_append, List.length_cons, List.length_nil, List.length_set, List.length_replicate, List.length_take, List.length_drop]; omega))) only [ht, grd_tt, grd_and, grd_dec, grd_ne, cond_dt, cond_df, cond_et, cond_ef, cond_nt, cond_nf, w64, wu64, wu32, wu8, tm, td, bind_some', same_ee, same_er, same_re, same_rr, cond_t, cond_f]
  rw [hv]; simp
end Go.AM.Num
end
section
set_option linter.unusedSimpArgs false
set_option linter.unusedVariables false
namespace Go.AM.Num

theorem mul_bound {x y : Int} (hx : 0 ≤ x ∧ x < 1000000000) (hy : 0 ≤ y ∧ y < 1000000000) : 0 ≤ x * y ∧ x * y ≤ 999999998000000001 := by
  refine ⟨Int.mul_nonneg hx.1 hy.1, ?_⟩
  have h1 : x * y ≤ 999999999 * y := Int.mul_le_mul_of_nonneg_right (by omega) hy.1
  omega

theorem mul_s7_eq {b out0 : List Int} {i : Nat} {x : Int} (hb : Wf b) (ho : Wf out0) (hx : 0 ≤ x ∧ x < 1000000000) (hl : i + b.length < out0.length) (hL : out0.length ≤ 2000000000) (t18 : List Int) (t19 t20 : Int) :
    ∃ out c, loopO n_nat_mul_s7 (b, out0, (i : Int), x, 0, t18, t19, t20, b, (b.length : Int), 0, ()) = some (Ex.exit 2, (b, out, (i : Int), x, c, t18, t19, t20, b, (b.length : Int), (b.length : Int), ())) ∧
      out.length = out0.length ∧ Wf out ∧ (0 ≤ c ∧ c < 1000000000) ∧ lv out + c * bp (i + b.length) = lv out0 + x * lv b * bp i ∧ ∀ j, i + b.length ≤ j → out.getD j 0 = out0.getD j 0 := by
  obtain ⟨r, hr, out, c, rfl, h1, h2, h3, h4, h5⟩ := loopO_ind (step := n_nat_mul_s7) (Q := fun r => ∃ (out : List Int) (c : Int), r = (Ex.exit 2, (b, out, (i : Int), x, c, t18, t19, t20, b, (b.length : Int), (b.length : Int), ())) ∧
      out.length = out0.length ∧ Wf out ∧ (0 ≤ c ∧ c < 1000000000) ∧ lv out + c * bp (i + b.length) = lv out0 + x * lv b * bp i ∧ ∀ j, i + b.length ≤ j → out.getD j 0 = out0.getD j 0)
    (fun m y => ∃ (k : Nat) (out : List Int) (c : Int), m + k = b.length ∧ y = (b, out, (i : Int), x, c, t18, t19, t20, b, (b.length : Int), (k : Int), ()) ∧
      out.length = out0.length ∧ Wf out ∧ (0 ≤ c ∧ c < 1000000000) ∧ lv out + c * bp (i + k) = lv out0 + x * lv (b.take k) * bp i ∧ ∀ j, i + k ≤ j → out.getD j 0 = out0.getD j 0) (by
      rintro m y ⟨k, out, c, hm, rfl, h1, h2, h3, h4, h5⟩
      by_cases hk : k < b.length
      · have hy := hb.at k
        have hz := h2.at (i + k)
        have hxy := mul_bound hx hy
        have e1 : (k : Int).toNat = k := by omega
        have e2 : ((i : Int) + k).toNat = i + k := by omega
        obtain ⟨v, hv⟩ : ∃ v, v = out.getD (i + k) 0 + x * b.getD k 0 + c := ⟨_, rfl⟩
        refine .inr ⟨m - 1, (b, out.set (i + k) (v % 1000000000), (i : Int), x, v / 1000000000, t18, t19, t20, b, (b.length : Int), ((k + 1 : Nat) : Int), ()), ?_, by omega, k + 1, _, _, by omega, rfl, by simpa using h1, h2.set _ (by omega), by omega, ?_, ?_⟩
        · rw [hv]
          simp (disch := (first | omega | (simp only [maxN_eq, List.length_append, List.length_cons, List.length_nil, List.length_set, List.length_replicate, List.length_take, List.length_drop]; omega))) only [n_nat_mul_s7, e1, e2, grd_tt, grd_and, grd_dec, grd_ne, cond_dt, cond_df, cond_et, cond_ef, cond_nt, cond_nf, w64, wu64, wu32, wu8, tm, td, bind_some', same_ee, same_er, same_re, same_rr, cond_t, cond_f]
          rfl
        · rw [lv_set (by omega), lv_take_succ', show i + (k + 1) = i + k + 1 by omega, bp_succ, bp_add] at *
          have := Int.emod_add_mul_ediv v 1000000000
          grind
        · intro j hj
          rw [set_getD (by omega), if_neg (by omega)]
          exact h5 j (by omega)
      · refine .inl ⟨(Ex.exit 2, (b, out, (i : Int), x, c, t18, t19, t20, b, (b.length : Int), (b.length : Int), ())), ?_, by simp, out, c, rfl, h1, h2, h3, ?_, ?_⟩
        · simp (disch := (first | omega | (simp only [maxN_eq, List.length_append, List.length_cons, List.length_nil, List.length_set, List.length_replicate, List.length_take, List.length_drop]; omega))) only [n_nat_mul_s7, grd_tt, grd_and, grd_dec, grd_ne, cond_dt, cond_df, cond_et, cond_ef, cond_nt, cond_nf, w64, wu64, wu32, wu8, tm, td, bind_some', same_ee, same_er, same_re, same_rr, cond_t, cond_f]
          rw [show k = b.length by omega]
        · rw [show k = b.length by omega, List.take_length] at h4; exact h4
        · intro j hj; exact h5 j (by omega)) b.length _ ⟨0, out0, 0, by omega, rfl, rfl, ho, by omega, by simp [lv], fun j _ => rfl⟩
  exact ⟨out, c, hr, h1, h2, h3, h4, h5⟩

theorem mul_loop {a b : List Int} (ha : Wf a) (hb : Wf b) (hal : a.length ≤ 1000000000) (hbl : b.length ≤ 1000000000) :
    ∃ out, loopO n_nat_mul_s3 (b, List.replicate (a.length + b.length) 0, a, (a.length : Int), 0, ()) = some (Ex.exit 0, (b, out, a, (a.length : Int), (a.length : Int), ())) ∧ Wf out ∧ out.length = a.length + b.length ∧ lv out = lv a * lv b := by
  obtain ⟨r, hr, out, rfl, h1, h2, h3⟩ := loopO_ind (step := n_nat_mul_s3) (Q := fun r => ∃ (out : List Int), r = (Ex.exit 0, (b, out, a, (a.length : Int), (a.length : Int), ())) ∧ Wf out ∧ out.length = a.length + b.length ∧ lv out = lv a * lv b)
    (fun m y => ∃ (i : Nat) (out : List Int), m + i = a.length ∧ y = (b, out, a, (a.length : Int), (i : Int), ()) ∧ Wf out ∧ out.length = a.length + b.length ∧ lv out = lv (a.take i) * lv b ∧ ∀ j, i + b.length ≤ j → out.getD j 0 = 0) (by
      rintro m y ⟨i, out, hm, rfl, h1, h2, h3, h4⟩
      by_cases hi : i < a.length
      · have hx := ha.at i
        have e1 : (i : Int).toNat = i := by omega
        obtain ⟨o2, c, hin, g1, g2, g3, g4, g5⟩ := mul_s7_eq (i := i) hb h1 hx (by omega) (by omega) a (a.length : Int) (i : Int)
        have e2 : ((i : Int) + b.length).toNat = i + b.length := by omega
        refine .inr ⟨m - 1, (b, o2.set (i + b.length) c, a, (a.length : Int), ((i + 1 : Nat) : Int), ()), ?_, by omega, i + 1, _, by omega, rfl, g2.set _ g3, by simp; omega, ?_, ?_⟩
        · simp (disch := (first | omega | (simp only [maxN_eq, List.length_append, List.length_cons, List.length_nil, List.length_set, List.length_replicate, List.length_take, List.length_drop]; omega))) only [n_nat_mul_s3, e1, hin, e2, grd_tt, grd_and, grd_dec, grd_ne, cond_dt, cond_df, cond_et, cond_ef, cond_nt, cond_nf, w64, wu64, wu32, wu8, tm, td, bind_some', same_ee, same_er, same_re, same_rr, cond_t, cond_f]
          rfl
        · rw [lv_set (by omega), g5 _ (Nat.le_refl _), h4 _ (Nat.le_refl _), lv_take_succ']
          grind
        · intro j hj
          rw [set_getD (by omega), if_neg (by omega), g5 j (by omega)]
          exact h4 j (by omega)
      · refine .inl ⟨(Ex.exit 0, (b, out, a, (a.length : Int), (a.length : Int), ())), ?_, by simp, out, rfl, h1, h2, ?_⟩
        · simp (disch := (first | omega | (simp only [maxN_eq, List.length_append, List.length_cons, List.length_nil, List.length_set, List.length_replicate, List.length_take, List.length_drop]; omega))) only [n_nat_mul_s3, grd_tt, grd_and, grd_dec, grd_ne, cond_dt, cond_df, cond_et, cond_ef, cond_nt, cond_nf, w64, wu64, wu32, wu8, tm, td, bind_some', same_ee, same_er, same_re, same_rr, cond_t, cond_f]
          rw [show i = a.length by omega]
        · rw [show i = a.length by omega, List.take_length] at h3; exact h3) a.length _ ⟨0, List.replicate (a.length + b.length) 0, by omega, rfl, Wf.zeros _, by simp, by rw [lv_zeros]; simp [lv], fun j _ => by
          rw [List.getD_eq_getElem?_getD, List.getElem?_replicate]; split <;> rfl⟩
  exact ⟨out, hr, h1, h2, h3⟩

theorem mul_lv {a b : List Int} (ha : Wf a) (hb : Wf b) (hal : a.length ≤ 1000000000) (hbl : b.length ≤ 1000000000) : n_nat_mul a b = some ((limbs (lv a * lv b).toNat, ()), ()) := by
  obtain ⟨out, hr, h1, h2, h3⟩ := mul_loop ha hb hal hbl
  unfold n_nat_mul
  have e : ((a.length : Int) + b.length).toNat = a.length + b.length := by omega
  have ht := trim_eq h1 (by omega)
  simp (disch := (first | omega | (simp only [maxN_eq, List.length_append, List.length_cons, List.length_nil, List.length_set, List.length_replicate, List.length_take, List.length_drop]; omega))) only [e, hr, ht, grd_tt, grd_and, grd_dec, grd_ne, cond_dt, cond_df, cond_et, cond_ef, cond_nt, cond_nf, w64, wu64, wu32, wu8, tm, td, bind_some', same_ee, same_er, same_re, same_rr, cond_t, cond_f]
  rw [h3]
theorem mul_eq (m n : Nat) (hm : (limbs m).length ≤ 1000000000) (hn : (limbs n).length ≤ 1000000000) : n_nat_mul (limbs m) (limbs n) = some ((limbs (m * n), ()), ()) := by
  rw [mul_lv (limbs_wf m) (limbs_wf n) hm hn, lv_limbs, lv_limbs, ← Int.natCast_mul, Int.toNat_natCast]

/-! ### The variants whose result is a row -/
theorem trim_v_s2 : n_nat_trim_v_s2 = n_nat_trim_s2 := by
  funext x
  unfold n_nat_trim_v_s2 n_nat_trim_s2
  obtain ⟨a, n, u⟩ := x
  simp only
  cases h : decide (n > 0)
  · rfl
  · simp only [cond_t]
    cases h2 : (decide (0 ≤ IntKind.i64.wrap (n - 1)) && decide (IntKind.i64.wrap (n - 1) < a.length))
    · rfl
    · simp only [grd_tt]
      simp only [Bool.and_eq_true, decide_eq_true_eq] at h2
      rw [grd_dec (by omega)]
theorem trim_v_eq {l : List Int} (hw : Wf l) (hl : l.length ≤ 1000000000000) : ∃ n, n_nat_trim_v l = some ((n, ()), l, ()) ∧ l.take n = limbs (lv l).toNat ∧ n ≤ l.length := by
  have h := trim_eq hw hl
  unfold n_nat_trim at h
  unfold n_nat_trim_v
  rw [trim_v_s2]
  have hst : ∀ x r, loopO n_nat_trim_s2 x = some r → r.2.1 = x.1 := by
    intro x r hr
    obtain ⟨n, hn⟩ := loopO_iff.1 hr
    clear hr
    have hs : ∀ x e y, n_nat_trim_s2 x = some (e, y) → y.1 = x.1 := by
      intro x e y h
      unfold n_nat_trim_s2 at h
      simp only [grd] at h
      cases h1 : decide (x.2.1 > 0) <;> rw [h1] at h <;> simp only [cond] at h
      · cases h; rfl
      · cases h2 : (decide (0 ≤ IntKind.i64.wrap (x.2.1 - 1)) && decide (IntKind.i64.wrap (x.2.1 - 1) < x.1.length)) <;> rw [h2] at h <;> simp only at h
        · cases h
        · split at h <;> cases h <;> rfl
    induction hn with
    | done h _ => exact hs _ _ _ h
    | more h _ ih => rw [ih]; exact hs _ _ _ h
  cases hr : loopO n_nat_trim_s2 (l, (l.length : Int), ()) with
  | none => rw [hr] at h; cases h
  | some r =>
    have hl1 := hst _ _ hr
    rw [hr] at h
    obtain ⟨e, a, n, u⟩ := r
    simp only at hl1
    subst hl1
    simp only [bind_some', grd] at h ⊢
    cases h1 : Ex.same e (Ex.exit 0) <;> rw [h1] at h <;> simp only [cond] at h ⊢
    · cases h
    · cases h2 : (decide (0 ≤ n) && decide (n ≤ a.length)) <;> rw [h2] at h <;> simp only at h ⊢
      · cases h
      · simp only [Bool.and_eq_true, decide_eq_true_eq] at h2
        simp only [Option.some.injEq, Prod.mk.injEq, and_true] at h
        exact ⟨n.toNat, rfl, h, by omega⟩
theorem mul_r_s7 : n_nat_mul_r_s7 = n_nat_mul_s7 := rfl
theorem mul_r_s3 : n_nat_mul_r_s3 = n_nat_mul_s3 := rfl
theorem mul_r_lv {a b : List Int} (ha : Wf a) (hb : Wf b) (hal : a.length ≤ 1000000000) (hbl : b.length ≤ 1000000000) : n_nat_mul_r a b = some ((limbs (lv a * lv b).toNat, ()), ()) := by
  obtain ⟨out, hr, h1, h2, h3⟩ := mul_loop ha hb hal hbl
  unfold n_nat_mul_r
  rw [mul_r_s3]
  have e : ((a.length : Int) + b.length).toNat = a.length + b.length := by omega
  obtain ⟨n, ht, htk, _⟩ := trim_v_eq h1 (by omega)
  simp (disch := (first | omega | (simp only [maxN_eq, List.length_append, List.length_cons, List.length_nil, List.length_set, List.length_replicate, List.length_take, List.length_drop]; omega))) only [e, hr, ht, grd_tt, grd_and, grd_dec, grd_ne, cond_dt, cond_df, cond_et, cond_ef, cond_nt, cond_nf, w64, wu64, wu32, wu8, tm, td, bind_some', same_ee, same_er, same_re, same_rr, cond_t, cond_f]
  rw [htk, h3]
end Go.AM.Num
end
section
set_option linter.unusedSimpArgs false
set_option linter.unusedVariables false
namespace Go.AM.Num

theorem quoLimb_lv {a : List Int} {b : Int} (ha : Wf a) (hal : a.length ≤ 1000000000) (hb : 0 < b ∧ b < 1000000000) :
    n_nat_quoLimb a b = some ((limbs (lv a / b).toNat, limbs (lv a % b).toNat, ()), ()) := by
  obtain ⟨r, hr, q, rest, rfl, h1, h2, h3, h4⟩ := loopO_ind (step := n_nat_quoLimb_s4) (Q := fun r => ∃ (q : List Int) (rest : Int), r = (Ex.exit 0, (a, b, q, rest, -1, ())) ∧ Wf q ∧ q.length = a.length ∧ (0 ≤ rest ∧ rest < b) ∧ lv a = b * lv q + rest)
    (fun k x => ∃ (q : List Int) (rest : Int), x = (a, b, q, rest, (k : Int) - 1, ()) ∧ k ≤ a.length ∧ Wf q ∧ q.length = a.length ∧ (0 ≤ rest ∧ rest < b) ∧ lv (a.drop k) = b * lv (q.drop k) + rest) (by
      rintro k x ⟨q, rest, rfl, hk, h1, h2, h3, h4⟩
      by_cases h0 : k = 0
      · subst h0
        refine .inl ⟨_, ?_, ?_, q, rest, rfl, h1, h2, h3, by simpa using h4⟩
        · simp (disch := (first | omega | (simp only [maxN_eq, List.length_append, List.length_cons, List.length_nil, List.length_set, List.length_replicate, List.length_take, List.length_drop]; omega))) only [n_nat_quoLimb_s4, grd_tt, grd_and, grd_dec, grd_ne, cond_dt, cond_df, cond_et, cond_ef, cond_nt, cond_nf, w64, wu64, wu32, wu8, tm, td, bind_some', same_ee, same_er, same_re, same_rr, cond_t, cond_f]
          rfl
        · simp
      · have hz := ha.at (k - 1)
        have e : ((k : Int) - 1).toNat = k - 1 := by omega
        obtain ⟨v, hv⟩ : ∃ v, v = rest * 1000000000 + a.getD (k - 1) 0 := ⟨_, rfl⟩
        have hvb : v < b * 1000000000 := by
          have : rest * 1000000000 ≤ (b - 1) * 1000000000 := Int.mul_le_mul_of_nonneg_right (by omega) (by omega)
          omega
        have hq0 : 0 ≤ v / b := Int.ediv_nonneg (by omega) (by omega)
        have hq1 : v / b < 1000000000 := Int.ediv_lt_of_lt_mul hb.1 (by rw [Int.mul_comm]; exact hvb)
        have hr0 := Int.emod_nonneg v (show b ≠ 0 by omega)
        have hr1 := Int.emod_lt_of_pos v hb.1
        refine .inr ⟨k - 1, (a, b, q.set (k - 1) (v / b), v % b, (k : Int) - 1 - 1, ()), ?_, by omega, q.set (k - 1) (v / b), v % b, ?_, by omega, h1.set _ ⟨hq0, hq1⟩, by simpa using h2, ⟨hr0, hr1⟩, ?_⟩
        · rw [hv] at hq0 hq1 ⊢
          simp (disch := (first | omega | (simp only [maxN_eq, List.length_append, List.length_cons, List.length_nil, List.length_set, List.length_replicate, List.length_take, List.length_drop]; omega))) only [n_nat_quoLimb_s4, e, grd_tt, grd_and, grd_dec, grd_ne, cond_dt, cond_df, cond_et, cond_ef, cond_nt, cond_nf, w64, wu64, wu32, wu8, tm, td, bind_some', same_ee, same_er, same_re, same_rr, cond_t, cond_f]
        · rw [show ((k : Int) - 1 - 1) = ((k - 1 : Nat) : Int) - 1 by omega]
        · have hs : lv ((q.set (k - 1) (v / b)).drop (k - 1)) = v / b + 1000000000 * lv (q.drop k) := by
            rw [lv_drop (by simp; omega), set_getD (by omega), if_pos rfl, List.drop_set_of_lt (by omega), show k - 1 + 1 = k by omega]
          rw [hs, lv_drop (by omega), show k - 1 + 1 = k by omega, h4]
          have := Int.emod_add_mul_ediv v b
          grind) a.length (a, b, List.replicate (a.length : Int).toNat 0, 0, (a.length : Int) - 1, ()) ⟨_, 0, rfl, Nat.le_refl _, Wf.zeros _, by simp, by omega, by rw [List.drop_length, List.drop_of_length_le (by simp)]; simp [lv]⟩
  have hdiv : lv a / b = lv q := by
    rw [h4, Int.mul_comm, Int.add_comm, Int.add_mul_ediv_right _ _ (by omega), Int.ediv_eq_zero_of_lt h3.1 h3.2]; omega
  have hmod : lv a % b = rest := by
    rw [h4, Int.add_comm, Int.add_mul_emod_self_left, Int.emod_eq_of_lt h3.1 h3.2]
  unfold n_nat_quoLimb
  have ht := trim_eq h1 (by omega)
  have ht2 := trim_eq (l := [rest]) (Wf.one (by omega)) (by simp)
  have hw : IntKind.u32.wrap rest = rest := wu32 (by omega)
  have hw2 : IntKind.i64.wrap ((a.length : Int) - 1) = (a.length : Int) - 1 := w64 (by omega)
  rw [hw2, hr]
  simp (disch := (first | omega | (simp only [maxN_eq, List.length_append, List.length_cons, List.length_nil, List.length_set, List.length_replicate, List.length_take, List.length_drop]; omega))) only [ht, hw, ht2, grd_tt, grd_and, grd_dec, grd_ne, cond_dt, cond_df, cond_et, cond_ef, cond_nt, cond_nf, w64, wu64, wu32, wu8, tm, td, bind_some', same_ee, same_er, same_re, same_rr, cond_t, cond_f]
  rw [hdiv, hmod, lv_one]
theorem quoLimb_eq (m : Nat) (b : Nat) (hm : (limbs m).length ≤ 1000000000) (hb : 0 < b ∧ b < 1000000000) : n_nat_quoLimb (limbs m) (b : Int) = some ((limbs (m / b), limbs (m % b), ()), ()) := by
  rw [quoLimb_lv (limbs_wf m) hm (by omega), lv_limbs, ← Int.natCast_ediv, ← Int.natCast_emod, Int.toNat_natCast, Int.toNat_natCast]

/-- u - times * v; where that is negative, a power of the base more. -/
theorem subtract_lv {u v : List Int} {t : Int} (hu : Wf u) (hv : Wf v) (hl : v.length < u.length) (hL : u.length ≤ 2000000000) (ht : 0 ≤ t ∧ t < 1000000000) :
    ∃ (neg : Bool) (o : List Int), n_subtract u v t = some ((neg, ()), (o, ())) ∧ Wf o ∧ o.length = u.length ∧ lv o = lv u - t * lv v + (if neg then bp u.length else 0) := by
  obtain ⟨r, hr, o, br, rfl, h1, h2, h3, h4⟩ := loopO_ind (step := n_subtract_s3) (Q := fun r => ∃ (o : List Int) (br : Int), r = (Ex.exit 0, (o, v, t, 0, br, (u.length : Int), (u.length : Int), ())) ∧ Wf o ∧ o.length = u.length ∧ (0 ≤ br ∧ br ≤ 1) ∧ lv o = lv u - t * lv v + br * bp u.length)
    (fun m x => ∃ (k : Nat) (o : List Int) (c br : Int), m + k = u.length ∧ x = (o, v, t, c, br, (u.length : Int), (k : Int), ()) ∧ Wf o ∧ o.length = u.length ∧ (0 ≤ br ∧ br ≤ 1) ∧ (0 ≤ c ∧ c < 1000000000) ∧ (v.length < k → c = 0) ∧
      lv o = lv u - t * lv (v.take k) + (c + br) * bp k ∧ ∀ j, k ≤ j → o.getD j 0 = u.getD j 0) (by
      rintro m x ⟨k, o, c, br, hm, rfl, h1, h2, h3, h4, h5, h6, h7⟩
      by_cases hk : k < u.length
      · have e : (k : Int).toNat = k := by omega
        have hz := h1.at k
        have hy := hv.at k
        have hty := mul_bound ht hy
        obtain ⟨c', hc'⟩ : ∃ c', c' = c + t * v.getD k 0 := ⟨_, rfl⟩
        have hcb : 0 ≤ c' ∧ c' < 1000000000000000000 := by omega
        have hzero : v.length ≤ k → c' = c := fun h => by rw [hc', getD_ge h]; simp
        have hnew : v.length < k + 1 → c' / 1000000000 = 0 := fun h => by rw [hzero (by omega)]; omega
        have key : ∀ d br' : Int, d = o.getD k 0 - br - c' % 1000000000 + br' * 1000000000 → (0 ≤ br' ∧ br' ≤ 1) → (0 ≤ d ∧ d < 1000000000) →
            n_subtract_s3 (o, v, t, c, br, (u.length : Int), (k : Int), ()) = some (Ex.normal, (o.set k d, v, t, c' / 1000000000, br', (u.length : Int), ((k + 1 : Nat) : Int), ())) →
            (∃ (m' : Nat) (y : _), n_subtract_s3 (o, v, t, c, br, (u.length : Int), (k : Int), ()) = some (Ex.normal, y) ∧ m' < m ∧ ∃ (k : Nat) (o : List Int) (c br : Int), m' + k = u.length ∧ y = (o, v, t, c, br, (u.length : Int), (k : Int), ()) ∧ Wf o ∧ o.length = u.length ∧ (0 ≤ br ∧ br ≤ 1) ∧ (0 ≤ c ∧ c < 1000000000) ∧ (v.length < k → c = 0) ∧
              lv o = lv u - t * lv (v.take k) + (c + br) * bp k ∧ ∀ j, k ≤ j → o.getD j 0 = u.getD j 0) := by
          intro d br' hd hbr hd' hst
          refine ⟨m - 1, _, hst, by omega, k + 1, o.set k d, c' / 1000000000, br', by omega, rfl, h1.set _ hd', by simpa using h2, hbr, by omega, hnew, ?_, ?_⟩
          · rw [lv_set (by omega), lv_take_succ', bp_succ, h6]
            have := Int.emod_add_mul_ediv c' 1000000000
            grind
          · intro j hj
            rw [set_getD (by omega), if_neg (by omega)]
            exact h7 j (by omega)
        by_cases hkv : k < v.length
        · by_cases hneg : o.getD k 0 - br - c' % 1000000000 < 0
          · refine .inr (key (o.getD k 0 - br - c' % 1000000000 + 1000000000) 1 (by omega) (by omega) (by omega) ?_)
            rw [hc'] at hneg hcb ⊢
            simp (disch := (first | omega | (simp only [maxN_eq, List.length_append, List.length_cons, List.length_nil, List.length_set, List.length_replicate, List.length_take, List.length_drop]; omega))) only [n_subtract_s3, e, grd_tt, grd_and, grd_dec, grd_ne, cond_dt, cond_df, cond_et, cond_ef, cond_nt, cond_nf, w64, wu64, wu32, wu8, tm, td, bind_some', same_ee, same_er, same_re, same_rr, cond_t, cond_f]
            rfl
          · refine .inr (key (o.getD k 0 - br - c' % 1000000000) 0 (by omega) (by omega) (by omega) ?_)
            rw [hc'] at hneg hcb ⊢
            simp (disch := (first | omega | (simp only [maxN_eq, List.length_append, List.length_cons, List.length_nil, List.length_set, List.length_replicate, List.length_take, List.length_drop]; omega))) only [n_subtract_s3, e, grd_tt, grd_and, grd_dec, grd_ne, cond_dt, cond_df, cond_et, cond_ef, cond_nt, cond_nf, w64, wu64, wu32, wu8, tm, td, bind_some', same_ee, same_er, same_re, same_rr, cond_t, cond_f]
            rfl
        · have hcc := hzero (by omega)
          by_cases hneg : o.getD k 0 - br - c' % 1000000000 < 0
          · refine .inr (key (o.getD k 0 - br - c' % 1000000000 + 1000000000) 1 (by omega) (by omega) (by omega) ?_)
            rw [hcc] at hneg hcb ⊢
            simp (disch := (first | omega | (simp only [maxN_eq, List.length_append, List.length_cons, List.length_nil, List.length_set, List.length_replicate, List.length_take, List.length_drop]; omega))) only [n_subtract_s3, e, grd_tt, grd_and, grd_dec, grd_ne, cond_dt, cond_df, cond_et, cond_ef, cond_nt, cond_nf, w64, wu64, wu32, wu8, tm, td, bind_some', same_ee, same_er, same_re, same_rr, cond_t, cond_f]
            rfl
          · refine .inr (key (o.getD k 0 - br - c' % 1000000000) 0 (by omega) (by omega) (by omega) ?_)
            rw [hcc] at hneg hcb ⊢
            simp (disch := (first | omega | (simp only [maxN_eq, List.length_append, List.length_cons, List.length_nil, List.length_set, List.length_replicate, List.length_take, List.length_drop]; omega))) only [n_subtract_s3, e, grd_tt, grd_and, grd_dec, grd_ne, cond_dt, cond_df, cond_et, cond_ef, cond_nt, cond_nf, w64, wu64, wu32, wu8, tm, td, bind_some', same_ee, same_er, same_re, same_rr, cond_t, cond_f]
            rfl
      · have hkl : k = u.length := by omega
        subst hkl
        have hc0 := h5 hl
        subst hc0
        refine .inl ⟨(Ex.exit 0, (o, v, t, 0, br, (u.length : Int), (u.length : Int), ())), ?_, by simp, o, br, rfl, h1, h2, h3, ?_⟩
        · simp (disch := (first | omega | (simp only [maxN_eq, List.length_append, List.length_cons, List.length_nil, List.length_set, List.length_replicate, List.length_take, List.length_drop]; omega))) only [n_subtract_s3, grd_tt, grd_and, grd_dec, grd_ne, cond_dt, cond_df, cond_et, cond_ef, cond_nt, cond_nf, w64, wu64, wu32, wu8, tm, td, bind_some', same_ee, same_er, same_re, same_rr, cond_t, cond_f]
        · rw [List.take_of_length_le (by omega)] at h6
          rw [h6]; simp) u.length (u, v, t, 0, 0, (u.length : Int), 0, ()) ⟨0, u, 0, 0, by omega, rfl, hu, rfl, by omega, by omega, by omega, by simp [lv], fun j _ => rfl⟩
  refine ⟨decide (br > 0), o, ?_, h1, h2, ?_⟩
  · unfold n_subtract
    rw [hr]
    simp (disch := (first | omega | (simp only [maxN_eq, List.length_append, List.length_cons, List.length_nil, List.length_set, List.length_replicate, List.length_take, List.length_drop]; omega))) only [grd_tt, grd_and, grd_dec, grd_ne, cond_dt, cond_df, cond_et, cond_ef, cond_nt, cond_nf, w64, wu64, wu32, wu8, tm, td, bind_some', same_ee, same_er, same_re, same_rr, cond_t, cond_f]
  · rw [h4]
    rcases (show br = 0 ∨ br = 1 by omega) with rfl | rfl <;> simp

/-- u + v, what exceeds u's limbs is lost. -/
theorem restore_lv {u v : List Int} (hu : Wf u) (hv : Wf v) (hl : v.length ≤ u.length) (hL : u.length ≤ 2000000000) :
    ∃ (c : Int) (o : List Int), n_restore u v = some ((), (o, ())) ∧ Wf o ∧ o.length = u.length ∧ (0 ≤ c ∧ c ≤ 1) ∧ lv o = lv u + lv v - c * bp u.length := by
  obtain ⟨r, hr, o, c, rfl, h1, h2, h3, h4⟩ := loopO_ind (step := n_restore_s2) (Q := fun r => ∃ (o : List Int) (c : Int), r = (Ex.exit 0, (o, v, c, (u.length : Int), (u.length : Int), ())) ∧ Wf o ∧ o.length = u.length ∧ (0 ≤ c ∧ c ≤ 1) ∧ lv o = lv u + lv v - c * bp u.length)
    (fun m x => ∃ (k : Nat) (o : List Int) (c : Int), m + k = u.length ∧ x = (o, v, c, (u.length : Int), (k : Int), ()) ∧ Wf o ∧ o.length = u.length ∧ (0 ≤ c ∧ c ≤ 1) ∧ lv o = lv u + lv (v.take k) - c * bp k ∧ ∀ j, k ≤ j → o.getD j 0 = u.getD j 0) (by
      rintro m x ⟨k, o, c, hm, rfl, h1, h2, h3, h4, h5⟩
      by_cases hk : k < u.length
      · have e : (k : Int).toNat = k := by omega
        have hz := h1.at k
        have hy := hv.at k
        have e2 := at_eq v (i := (k : Int)) (by omega)
        rw [e] at e2
        obtain ⟨s, hs⟩ : ∃ s, s = o.getD k 0 + v.getD k 0 + c := ⟨_, rfl⟩
        refine .inr ⟨m - 1, (o.set k (s % 1000000000), v, s / 1000000000, (u.length : Int), ((k + 1 : Nat) : Int), ()), ?_, by omega, k + 1, _, _, by omega, rfl, h1.set _ (by omega), by simpa using h2, by omega, ?_, ?_⟩
        · rw [hs]
          simp (disch := (first | omega | (simp only [maxN_eq, List.length_append, List.length_cons, List.length_nil, List.length_set, List.length_replicate, List.length_take, List.length_drop]; omega))) only [n_restore_s2, e, e2, grd_tt, grd_and, grd_dec, grd_ne, cond_dt, cond_df, cond_et, cond_ef, cond_nt, cond_nf, w64, wu64, wu32, wu8, tm, td, bind_some', same_ee, same_er, same_re, same_rr, cond_t, cond_f]
          rfl
        · rw [lv_set (by omega), lv_take_succ', bp_succ, h4]
          have := Int.emod_add_mul_ediv s 1000000000
          grind
        · intro j hj
          rw [set_getD (by omega), if_neg (by omega)]
          exact h5 j (by omega)
      · have hkl : k = u.length := by omega
        subst hkl
        refine .inl ⟨(Ex.exit 0, (o, v, c, (u.length : Int), (u.length : Int), ())), ?_, by simp, o, c, rfl, h1, h2, h3, ?_⟩
        · simp (disch := (first | omega | (simp only [maxN_eq, List.length_append, List.length_cons, List.length_nil, List.length_set, List.length_replicate, List.length_take, List.length_drop]; omega))) only [n_restore_s2, grd_tt, grd_and, grd_dec, grd_ne, cond_dt, cond_df, cond_et, cond_ef, cond_nt, cond_nf, w64, wu64, wu32, wu8, tm, td, bind_some', same_ee, same_er, same_re, same_rr, cond_t, cond_f]
        · rw [List.take_of_length_le (by omega)] at h4; exact h4) u.length (u, v, 0, (u.length : Int), 0, ()) ⟨0, u, 0, by omega, rfl, hu, rfl, by omega, by simp [lv], fun j _ => rfl⟩
  refine ⟨c, o, ?_, h1, h2, h3, h4⟩
  unfold n_restore
  rw [hr]
  simp (disch := (first | omega | (simp only [maxN_eq, List.length_append, List.length_cons, List.length_nil, List.length_set, List.length_replicate, List.length_take, List.length_drop]; omega))) only [grd_tt, grd_and, grd_dec, grd_ne, cond_dt, cond_df, cond_et, cond_ef, cond_nt, cond_nf, w64, wu64, wu32, wu8, tm, td, bind_some', same_ee, same_er, same_re, same_rr, cond_t, cond_f]
end Go.AM.Num
end
section
set_option linter.unusedSimpArgs false
set_option linter.unusedVariables false
namespace Go.AM.Num

theorem guess_hi {V U g V2 U3 R lv' lu' : Int} (hV : V = V2 * R + lv') (hU : U = U3 * R + lu') (h1 : 0 ≤ lv' ∧ lv' < R) (h2 : 0 ≤ lu') (hg : 0 ≤ g ∧ g ≤ 1000000000) (h : g * V2 ≤ U3) (hb : 1000000000 * R ≤ V) (hV0 : 0 < V) : g ≤ U / V + 1 := by
  have e1 : g * V2 * R ≤ U3 * R := Int.mul_le_mul_of_nonneg_right h (by omega)
  have e2 : g * lv' ≤ g * R := Int.mul_le_mul_of_nonneg_left (by omega) hg.1
  have e3 : g * R ≤ 1000000000 * R := Int.mul_le_mul_of_nonneg_right hg.2 (by omega)
  have e5 : g * V = g * V2 * R + g * lv' := by rw [hV, Int.mul_add, Int.mul_assoc]
  have e4 : (g - 1) * V ≤ U := by
    rw [Int.sub_mul, Int.one_mul]
    omega
  have := Int.le_ediv_of_mul_le hV0 e4
  omega
theorem guess_lo {V U q V2 U3 R lv' lu' : Int} (hV : V = V2 * R + lv') (hU : U = U3 * R + lu') (h1 : 0 ≤ lv') (h2 : 0 ≤ lu' ∧ lu' < R) (hq0 : 0 ≤ q) (hq : q * V ≤ U) : q * V2 ≤ U3 := by
  have e2 : 0 ≤ q * lv' := Int.mul_nonneg hq0 h1
  have e5 : q * V = q * V2 * R + q * lv' := by rw [hV, Int.mul_add, Int.mul_assoc]
  have e3 : q * V2 * R < (U3 + 1) * R := by
    rw [Int.add_mul, Int.one_mul]
    omega
  have := Int.lt_of_mul_lt_mul_right e3 (by omega)
  omega

theorem reduce_loop {u v : List Int} {n : Nat} (hu : Wf u) (hv : Wf v) (hn : v.length = n) (hn2 : 2 ≤ n) (hul : u.length = n + 1) (hN : n ≤ 1000000000) (ht : v.getD (n - 1) 0 ≠ 0) (hlt : lv u < lv v * 1000000000) (g r : Int)
    (hgr : u.getD n 0 * 1000000000 + u.getD (n - 1) 0 = g * v.getD (n - 1) 0 + r) (hr0 : 0 ≤ r ∧ r < v.getD (n - 1) 0) (hg0 : 0 ≤ g) :
    ∃ g' r', loopO n_reduce_s4 (u, v, (n : Int), v.getD (n - 1) 0, g, r, ()) = some (Ex.exit 0, (u, v, (n : Int), v.getD (n - 1) 0, g', r', ())) ∧ (g' = lv u / lv v ∨ g' = lv u / lv v + 1) ∧ 0 ≤ g' ∧ g' < 1000000000 := by
  obtain ⟨f, hf⟩ : ∃ f, f = v.getD (n - 1) 0 := ⟨_, rfl⟩
  obtain ⟨v2, hv2⟩ : ∃ x, x = v.getD (n - 2) 0 := ⟨_, rfl⟩
  obtain ⟨u0, hu0⟩ : ∃ x, x = u.getD n 0 := ⟨_, rfl⟩
  obtain ⟨u1, hu1⟩ : ∃ x, x = u.getD (n - 1) 0 := ⟨_, rfl⟩
  obtain ⟨u2, hu2⟩ : ∃ x, x = u.getD (n - 2) 0 := ⟨_, rfl⟩
  have bf := hv.at (n - 1)
  have bv2 := hv.at (n - 2)
  have bu0 := hu.at n
  have bu1 := hu.at (n - 1)
  have bu2 := hu.at (n - 2)
  rw [← hf] at ht hgr hr0 bf ⊢
  rw [← hv2] at bv2
  rw [← hu0] at hgr bu0
  rw [← hu1] at hgr bu1
  rw [← hu2] at bu2
  obtain ⟨R, hR⟩ : ∃ R, R = bp (n - 2) := ⟨_, rfl⟩
  have hRp := bp_pos (n - 2)
  rw [← hR] at hRp
  have hPR : bp (n - 1) = 1000000000 * R := by rw [hR, show n - 1 = n - 2 + 1 by omega, bp_succ]
  -- v and u by their highest limbs
  have sv : lv v = (f * 1000000000 + v2) * R + lv (v.take (n - 2)) := by
    have := lv_split v (n - 2) (by omega)
    rw [lv_drop (by omega), lv_drop (by omega), show n - 2 + 1 = n - 1 by omega, show n - 1 + 1 = n by omega, List.drop_of_length_le (by omega), ← hf, ← hv2, ← hR] at this
    simp only [lv] at this
    grind
  have su : lv u = ((u0 * 1000000000 + u1) * 1000000000 + u2) * R + lv (u.take (n - 2)) := by
    have := lv_split u (n - 2) (by omega)
    rw [lv_drop (by omega), lv_drop (by omega), lv_drop (by omega), show n - 2 + 1 = n - 1 by omega, show n - 1 + 1 = n by omega, List.drop_of_length_le (by omega), ← hu0, ← hu1, ← hu2, ← hR] at this
    simp only [lv] at this
    grind
  have sv1 : lv v = f * (1000000000 * R) + lv (v.take (n - 1)) := by
    have := lv_split v (n - 1) (by omega)
    rw [lv_drop (by omega), show n - 1 + 1 = n by omega, List.drop_of_length_le (by omega), ← hf, hPR] at this
    simp only [lv] at this
    grind
  have su1 : lv u = (u0 * 1000000000 + u1) * (1000000000 * R) + lv (u.take (n - 1)) := by
    have := lv_split u (n - 1) (by omega)
    rw [lv_drop (by omega), lv_drop (by omega), show n - 1 + 1 = n by omega, List.drop_of_length_le (by omega), ← hu0, ← hu1, hPR] at this
    simp only [lv] at this
    grind
  have lvv := lv_lt (hv.take (n - 2))
  have lvv0 := lv_nonneg (hv.take (n - 2))
  have luu := lv_lt (hu.take (n - 2))
  have luu0 := lv_nonneg (hu.take (n - 2))
  have lvv1 := lv_lt (hv.take (n - 1))
  have lvv10 := lv_nonneg (hv.take (n - 1))
  have luu1 := lv_lt (hu.take (n - 1))
  have luu10 := lv_nonneg (hu.take (n - 1))
  rw [List.length_take, Nat.min_eq_left (by omega), ← hR] at lvv luu
  rw [List.length_take, Nat.min_eq_left (by omega), hPR] at lvv1 luu1
  have hVbig : 1000000000 * R ≤ lv v := by
    have : 1 * (1000000000 * R) ≤ f * (1000000000 * R) := Int.mul_le_mul_of_nonneg_right (by omega) (by omega)
    omega
  have hV0 : 0 < lv v := by omega
  obtain ⟨q, hq⟩ : ∃ q, q = lv u / lv v := ⟨_, rfl⟩
  have hq0 : 0 ≤ q := by rw [hq]; exact Int.ediv_nonneg (lv_nonneg hu) (by omega)
  have hqB : q < 1000000000 := by rw [hq]; exact Int.ediv_lt_of_lt_mul hV0 (by rw [Int.mul_comm]; exact hlt)
  have hqV : q * lv v ≤ lv u := by rw [hq]; exact Int.ediv_mul_le _ (by omega)
  have htop : u0 * 1000000000 + u1 < f * 1000000000 + 1000000000 := by
    have e : (u0 * 1000000000 + u1) * (1000000000 * R) < (f * 1000000000 + 1000000000) * (1000000000 * R) := by grind
    exact Int.lt_of_mul_lt_mul_right e (by omega)
  have hqf : q * f ≤ u0 * 1000000000 + u1 := guess_lo sv1 su1 lvv10 ⟨luu10, luu1⟩ hq0 hqV
  have hqg : q ≤ g := by
    have : q * f < (g + 1) * f := by grind
    have := Int.lt_of_mul_lt_mul_right this (by omega)
    omega
  rw [← hq]
  -- what one round keeps
  obtain ⟨r', hr', g', rr, rfl, hfin⟩ := loopO_ind (step := n_reduce_s4) (Q := fun z => ∃ g' r', z = (Ex.exit 0, (u, v, (n : Int), f, g', r', ())) ∧ (g' = q ∨ g' = q + 1) ∧ 0 ≤ g' ∧ g' < 1000000000)
    (fun m x => ∃ g r : Int, x = (u, v, (n : Int), f, g, r, ()) ∧ (m : Int) = 1000000000 - r ∧ u0 * 1000000000 + u1 = g * f + r ∧ (0 ≤ r ∧ r < 1000000000) ∧ q ≤ g ∧ g ≤ 1000000000000000000) (by
      rintro m x ⟨g, r, rfl, hm, hgr, hr, hqg, hgb⟩
      have en : ((n : Int) - 2).toNat = n - 2 := by omega
      have hw : IntKind.i64.wrap ((n : Int) - 2) = (n : Int) - 2 := w64 (by omega)
      -- the end behind a decrement
      have dec : q ≤ g - 1 → (n_reduce_s4 (u, v, (n : Int), f, g, r, ()) = cond (decide (r + f ≥ 1000000000)) (some (Ex.exit 0, (u, v, (n : Int), f, g - 1, r + f, ()))) (some (Ex.normal, (u, v, (n : Int), f, g - 1, r + f, ())))) →
          ((∃ z, n_reduce_s4 (u, v, (n : Int), f, g, r, ()) = some z ∧ z.1 ≠ .normal ∧ ∃ g' r', z = (Ex.exit 0, (u, v, (n : Int), f, g', r', ())) ∧ (g' = q ∨ g' = q + 1) ∧ 0 ≤ g' ∧ g' < 1000000000) ∨
            ∃ m' y, n_reduce_s4 (u, v, (n : Int), f, g, r, ()) = some (Ex.normal, y) ∧ m' < m ∧ ∃ g r : Int, y = (u, v, (n : Int), f, g, r, ()) ∧ (m' : Int) = 1000000000 - r ∧ u0 * 1000000000 + u1 = g * f + r ∧ (0 ≤ r ∧ r < 1000000000) ∧ q ≤ g ∧ g ≤ 1000000000000000000) := by
        intro hqg1 hst
        rw [hst]
        by_cases hb : r + f ≥ 1000000000
        · have hg1 : g - 1 < 1000000000 := by
            have : (g - 1) * f < 1000000000 * f := by grind
            exact Int.lt_of_mul_lt_mul_right this (by omega)
          have hm2 : (g - 1) * v2 ≤ 1000000000 * v2 := Int.mul_le_mul_of_nonneg_right (by omega) (by omega)
          have hhi := guess_hi (g := g - 1) sv su ⟨lvv0, lvv⟩ luu0 (by omega) (by grind) hVbig hV0
          rw [← hq] at hhi
          rw [decide_eq_true hb]
          exact .inl ⟨_, rfl, by simp, g - 1, r + f, rfl, by omega, by omega, hg1⟩
        · rw [decide_eq_false hb]
          exact .inr ⟨(1000000000 - (r + f)).toNat, _, rfl, by omega, g - 1, r + f, rfl, by omega, by grind, by omega, hqg1, by omega⟩
      by_cases hgB : g ≥ 1000000000
      · refine dec (by omega) ?_
        simp (disch := (first | omega | (simp only [maxN_eq, List.length_append, List.length_cons, List.length_nil, List.length_set, List.length_replicate, List.length_take, List.length_drop]; omega))) only [n_reduce_s4, grd_tt, grd_and, grd_dec, grd_ne, cond_dt, cond_df, cond_et, cond_ef, cond_nt, cond_nf, w64, wu64, wu32, wu8, tm, td, bind_some', same_ee, same_er, same_re, same_rr, cond_t, cond_f]
      · have hgv := mul_bound (x := g) (y := v2) (by omega) bv2
        by_cases hc : g * v2 > r * 1000000000 + u2
        · have hne : q ≠ g := by
            rintro rfl
            have := guess_lo sv su lvv0 ⟨luu0, luu⟩ hq0 hqV
            grind
          refine dec (by omega) ?_
          rw [hv2, hu2] at hc
          rw [hv2] at hgv bv2
          rw [hu2] at bu2
          simp (disch := (first | omega | (simp only [maxN_eq, List.length_append, List.length_cons, List.length_nil, List.length_set, List.length_replicate, List.length_take, List.length_drop]; omega))) only [n_reduce_s4, en, grd_tt, grd_and, grd_dec, grd_ne, cond_dt, cond_df, cond_et, cond_ef, cond_nt, cond_nf, w64, wu64, wu32, wu8, tm, td, bind_some', same_ee, same_er, same_re, same_rr, cond_t, cond_f]
        · have hhi := guess_hi (g := g) sv su ⟨lvv0, lvv⟩ luu0 (by omega) (by grind) hVbig hV0
          rw [← hq] at hhi
          refine .inl ⟨(Ex.exit 0, (u, v, (n : Int), f, g, r, ())), ?_, by simp, g, r, rfl, by omega, by omega, by omega⟩
          rw [hv2, hu2] at hc
          rw [hv2] at hgv bv2
          rw [hu2] at bu2
          simp (disch := (first | omega | (simp only [maxN_eq, List.length_append, List.length_cons, List.length_nil, List.length_set, List.length_replicate, List.length_take, List.length_drop]; omega))) only [n_reduce_s4, en, grd_tt, grd_and, grd_dec, grd_ne, cond_dt, cond_df, cond_et, cond_ef, cond_nt, cond_nf, w64, wu64, wu32, wu8, tm, td, bind_some', same_ee, same_er, same_re, same_rr, cond_t, cond_f]) (1000000000 - r).toNat _ ⟨g, r, rfl, by omega, hgr, by omega, hqg, by
        have : g * 1 ≤ g * f := Int.mul_le_mul_of_nonneg_left (by omega) hg0
        omega⟩
  exact ⟨g', rr, hr', hfin⟩

theorem reduce_lv {u v : List Int} {n : Nat} (hu : Wf u) (hv : Wf v) (hn : v.length = n) (hn2 : 2 ≤ n) (hul : u.length = n + 1) (hN : n ≤ 1000000000) (ht : v.getD (n - 1) 0 ≠ 0) (hlt : lv u < lv v * 1000000000) :
    ∃ o, n_reduce u v = some ((lv u / lv v, ()), (o, ())) ∧ Wf o ∧ o.length = n + 1 ∧ lv o = lv u % lv v ∧ 0 ≤ lv u / lv v ∧ lv u / lv v < 1000000000 := by
  have bf := hv.at (n - 1)
  have bu0 := hu.at n
  have bu1 := hu.at (n - 1)
  obtain ⟨top, htop⟩ : ∃ t, t = u.getD n 0 * 1000000000 + u.getD (n - 1) 0 := ⟨_, rfl⟩
  have hf0 : 0 < v.getD (n - 1) 0 := by omega
  have hr0 := Int.emod_nonneg top (show v.getD (n - 1) 0 ≠ 0 by omega)
  have hr1 := Int.emod_lt_of_pos top hf0
  have hg0 : 0 ≤ top / v.getD (n - 1) 0 := Int.ediv_nonneg (by omega) (by omega)
  have hg1 : top / v.getD (n - 1) 0 ≤ top := Int.ediv_le_self _ (by omega)
  obtain ⟨g', r', hloop, hg', hgl, hgB⟩ := reduce_loop hu hv hn hn2 hul hN ht hlt (top / v.getD (n - 1) 0) (top % v.getD (n - 1) 0) (by
    rw [← htop]; have := Int.emod_add_mul_ediv top (v.getD (n - 1) 0); grind) ⟨hr0, hr1⟩ hg0
  obtain ⟨neg, o, hs, ho1, ho2, ho3⟩ := subtract_lv hu hv (by omega) (by omega) ⟨hgl, hgB⟩
  have hVp : 0 < lv v := by
    have := lv_split v (n - 1) (by omega)
    rw [lv_drop (by omega), show n - 1 + 1 = n by omega, List.drop_of_length_le (by omega)] at this
    simp only [lv] at this
    have h1 := lv_nonneg (hv.take (n - 1))
    have h2 := bp_pos (n - 1)
    have h3 : bp (n - 1) * 1 ≤ bp (n - 1) * v.getD (n - 1) 0 := Int.mul_le_mul_of_nonneg_left (by omega) (by omega)
    grind
  have hdm := Int.emod_add_mul_ediv (lv u) (lv v)
  have hm0 := Int.emod_nonneg (lv u) (show lv v ≠ 0 by omega)
  have hm1 := Int.emod_lt_of_pos (lv u) hVp
  have hol := lv_lt ho1
  have hol0 := lv_nonneg ho1
  rw [ho2] at hol
  have hbp := bp_pos u.length
  have hq0 : 0 ≤ lv u / lv v := Int.ediv_nonneg (lv_nonneg hu) (by omega)
  have hqB : lv u / lv v < 1000000000 := Int.ediv_lt_of_lt_mul hVp (by rw [Int.mul_comm]; exact hlt)
  have en : ((n : Int) - 1).toNat = n - 1 := by omega
  have en2 : (n : Int).toNat = n := by omega
  have hne : v.getD (n - 1) 0 ≠ 0 := by omega
  have hA : n_reduce u v = (loopO n_reduce_s4 (u, v, (n : Int), v.getD (n - 1) 0, top / v.getD (n - 1) 0, top % v.getD (n - 1) 0, ())).bind fun y1 =>
      cond (Ex.same y1.1 (Ex.exit 0)) ((n_subtract y1.2.1 y1.2.2.1 y1.2.2.2.2.2.1).bind fun r2 =>
        cond (r2.1.1) ((n_restore r2.2.1 y1.2.2.1).bind fun r3 => some ((IntKind.u32.wrap (IntKind.u64.wrap (y1.2.2.2.2.2.1 - (1 : Int))), ()), r3.2.1, ()))
          (some ((IntKind.u32.wrap (y1.2.2.2.2.2.1), ()), r2.2.1, ()))) (none) := by
    rw [htop]
    rw [htop] at hg0 hg1 hr0 hr1
    unfold n_reduce
    rw [hn]
    simp (disch := (first | omega | (simp only [maxN_eq]; omega))) only [grd_and, grd_dec, grd_ne, w64, wu64, tm, td, en, en2]
  rw [hA, hloop]
  rcases hg' with rfl | rfl
  · have hneg : neg = false := by
      cases neg with
      | false => rfl
      | true => simp only [if_true] at ho3; grind
    subst hneg
    refine ⟨o, ?_, ho1, by omega, ?_, hq0, hqB⟩
    · simp (disch := (first | omega | (simp only [maxN_eq, List.length_append, List.length_cons, List.length_nil, List.length_set, List.length_replicate, List.length_take, List.length_drop]; omega))) only [hs, grd_tt, grd_and, grd_dec, grd_ne, cond_dt, cond_df, cond_et, cond_ef, cond_nt, cond_nf, w64, wu64, wu32, wu8, tm, td, bind_some', same_ee, same_er, same_re, same_rr, cond_t, cond_f]
    · simp at ho3; grind
  · have hneg : neg = true := by
      cases neg with
      | true => rfl
      | false => simp at ho3; grind
    subst hneg
    simp only [if_true] at ho3
    obtain ⟨c, o2, hre, hc1, hc2, hc3, hc4⟩ := restore_lv ho1 hv (by omega) (by omega)
    have hcl := lv_lt hc1
    have hcl0 := lv_nonneg hc1
    rw [hc2, ho2] at hcl
    rw [ho2] at hc4
    have hce : c = 1 := by
      rcases (show c = 0 ∨ c = 1 by omega) with rfl | rfl
      · grind
      · rfl
    subst hce
    refine ⟨o2, ?_, hc1, by omega, by grind, hq0, hqB⟩
    simp (disch := (first | omega | (simp only [maxN_eq, List.length_append, List.length_cons, List.length_nil, List.length_set, List.length_replicate, List.length_take, List.length_drop]; omega))) only [hs, hre, grd_tt, grd_and, grd_dec, grd_ne, cond_dt, cond_df, cond_et, cond_ef, cond_nt, cond_nf, w64, wu64, wu32, wu8, tm, td, bind_some', same_ee, same_er, same_re, same_rr, cond_t, cond_f]
    congr 3
    omega
end Go.AM.Num
end
section
set_option linter.unusedSimpArgs false
set_option linter.unusedVariables false
namespace Go.AM.Num

theorem lv_lt_len {l : List Int} {k : Nat} (h : Wf l) (hk : lv l < bp k) (hkl : k ≤ l.length) : lv (l.drop k) = 0 := by
  have h1 := lv_split l k hkl
  have h2 := lv_nonneg (h.take k)
  have h3 := lv_nonneg (h.drop k)
  rcases Int.lt_or_eq_of_le h3 with h4 | h4
  · have h5 : bp k * 1 ≤ bp k * lv (l.drop k) := Int.mul_le_mul_of_nonneg_left (by omega) (by have := bp_pos k; omega)
    omega
  · exact h4.symm

/-- The rounds of the long division. -/
theorem quo_loop {u v : List Int} {sc : List Int} {lb K : Nat} (hu : Wf u) (hv : Wf v) (hvl : v.length = lb) (hlb : 2 ≤ lb) (hul : u.length = K + lb) (hN : K + lb ≤ 1000000000) (ht : v.getD (lb - 1) 0 ≠ 0) (hlt : lv u < lv v * bp K) :
    ∃ u' q, loopO n_nat_quoRem_s11 (sc, u, v, List.replicate K 0, (K : Int) - 1, ()) = some (Ex.exit 3, (sc, u', v, q, -1, ())) ∧ Wf u' ∧ u'.length = K + lb ∧ Wf q ∧ q.length = K ∧ lv u' < lv v ∧ lv u = lv u' + lv v * lv q := by
  obtain ⟨V, hV⟩ : ∃ V, V = lv v := ⟨_, rfl⟩
  have hVl : V < bp lb := by rw [hV, ← hvl]; exact lv_lt hv
  have hV0 : 0 ≤ V := by rw [hV]; exact lv_nonneg hv
  rw [← hV] at hlt ⊢
  obtain ⟨r, hr, u', q, rfl, h1, h2, h3, h4, h5, h6⟩ := loopO_ind (step := n_nat_quoRem_s11) (Q := fun r => ∃ u' q, r = (Ex.exit 3, (sc, u', v, q, -1, ())) ∧ Wf u' ∧ u'.length = K + lb ∧ Wf q ∧ q.length = K ∧ lv u' < V ∧ lv u = lv u' + V * lv q)
    (fun k x => ∃ u' q : List Int, x = (sc, u', v, q, (k : Int) - 1, ()) ∧ k ≤ K ∧ Wf u' ∧ u'.length = K + lb ∧ Wf q ∧ q.length = K ∧ lv u' < V * bp k ∧ lv u = lv u' + V * bp k * lv (q.drop k)) (by
      rintro k x ⟨u', q, rfl, hk, h1, h2, h3, h4, h5, h6⟩
      by_cases h0 : k = 0
      · subst h0
        refine .inl ⟨(Ex.exit 3, (sc, u', v, q, -1, ())), ?_, by simp, u', q, rfl, h1, h2, h3, h4, by simpa [bp] using h5, by simpa [bp] using h6⟩
        simp (disch := (first | omega | (simp only [maxN_eq, List.length_append, List.length_cons, List.length_nil, List.length_set, List.length_replicate, List.length_take, List.length_drop]; omega))) only [n_nat_quoRem_s11, grd_tt, grd_and, grd_dec, grd_ne, cond_dt, cond_df, cond_et, cond_ef, cond_nt, cond_nf, w64, wu64, wu32, wu8, tm, td, bind_some', same_ee, same_er, same_re, same_rr, cond_t, cond_f]
        rfl
      · obtain ⟨j, rfl⟩ : ∃ j, k = j + 1 := ⟨k - 1, by omega⟩
        have ej : ((j : Int)).toNat = j := by omega
        have ek : (((j + 1 : Nat) : Int) - 1) = (j : Int) := by omega
        have eh : ((j : Int) + lb + 1).toNat - j = lb + 1 := by omega
        have hvl' : (v.length : Int) = (lb : Int) := by omega
        obtain ⟨w, hw⟩ : ∃ w, w = (u'.drop j).take (lb + 1) := ⟨_, rfl⟩
        have hww : Wf w := by rw [hw]; exact (h1.drop j).take _
        have hwl : w.length = lb + 1 := by rw [hw, List.length_take, List.length_drop]; omega
        have hbj := bp_pos j
        have huz : lv (u'.drop (j + (lb + 1))) = 0 := by
          refine lv_lt_len h1 ?_ (by omega)
          have e1 : V * bp (j + 1) ≤ bp lb * bp (j + 1) := Int.mul_le_mul_of_nonneg_right (by omega) (by have := bp_pos (j + 1); omega)
          rw [← bp_add] at e1
          rw [show j + (lb + 1) = lb + (j + 1) by omega]
          omega
        have hsplit : lv u' = lv (u'.take j) + bp j * lv w := by
          rw [lv_split u' j (by omega)]
          have := lv_split (u'.drop j) (lb + 1) (by rw [List.length_drop]; omega)
          rw [List.drop_drop, huz, ← hw] at this
          rw [this]; simp
        have htk0 := lv_nonneg (h1.take j)
        have htk := lv_lt (h1.take j)
        rw [List.length_take, Nat.min_eq_left (by omega)] at htk
        have hwV : lv w < lv v * 1000000000 := by
          rw [← hV]
          have : bp j * lv w < bp j * (V * 1000000000) := by
            rw [bp_succ] at h5
            have e : bp j * (V * 1000000000) = V * (1000000000 * bp j) := by grind
            omega
          exact Int.lt_of_mul_lt_mul_left this (by omega)
        obtain ⟨o, hred, ho1, ho2, ho3, ho4, ho5⟩ := reduce_lv hww hv hvl hlb hwl (by omega) ht hwV
        rw [← hV] at hred ho3 ho4 ho5
        have hV1 : 0 < V := by
          rcases Int.lt_or_eq_of_le hV0 with h | h
          · exact h
          · rw [← h] at h5; simp at h5; have := lv_nonneg h1; omega
        have hom := Int.emod_lt_of_pos (lv w) hV1
        have hdm := Int.emod_add_mul_ediv (lv w) V
        have hz : lv (u'.drop (j + (lb + 1))) = 0 := huz
        have hnew : lv (u'.take j ++ o ++ u'.drop (j + (lb + 1))) = lv (u'.take j) + bp j * (lv w % V) := by
          rw [lv_app, huz, lv_app, List.length_take, Nat.min_eq_left (by omega), ho3]; simp
        refine .inr ⟨j, (sc, u'.take j ++ o ++ u'.drop (j + (lb + 1)), v, q.set j (lv w / V), (j : Int) - 1, ()), ?_, by omega, _, _, rfl, by omega, ?_, ?_, h3.set _ ⟨ho4, ho5⟩, by simpa using h4, ?_, ?_⟩
        · have e0 : (lv w / V, ()).1 = lv w / V := rfl
          rw [ek]
          simp (disch := (first | omega | (simp only [maxN_eq, List.length_append, List.length_cons, List.length_nil, List.length_set, List.length_replicate, List.length_take, List.length_drop]; omega))) only [n_nat_quoRem_s11, ej, hvl', eh, ← hw, hred, grd_tt, grd_and, grd_dec, grd_ne, cond_dt, cond_df, cond_et, cond_ef, cond_nt, cond_nf, w64, wu64, wu32, wu8, tm, td, bind_some', same_ee, same_er, same_re, same_rr, cond_t, cond_f]
        · exact ((h1.take j).app ho1).app (h1.drop _)
        · simp only [List.length_append, List.length_take, List.length_drop]; omega
        · rw [hnew]
          have : bp j * (lv w % V) ≤ bp j * (V - 1) := Int.mul_le_mul_of_nonneg_left (by omega) (by omega)
          rw [Int.mul_sub] at this
          rw [Int.mul_comm V]
          omega
        · rw [hnew, lv_drop (by simpa using (show j < q.length by omega)), set_getD (by omega), if_pos rfl, List.drop_set_of_lt (by omega), h6, hsplit, bp_succ]
          grind) K (sc, u, v, List.replicate K 0, (K : Int) - 1, ()) ⟨u, _, rfl, Nat.le_refl _, hu, hul, Wf.zeros _, by simp, hlt, by rw [List.drop_of_length_le (by simp)]; simp [lv]⟩
  exact ⟨u', q, hr, h1, h2, h3, h4, h5, h6⟩

theorem pad_loop {u sc v a : List Int} (hu : Wf u) (hl : u.length ≤ a.length + 1) (hN : a.length ≤ 1000000000) :
    ∃ u', loopO n_nat_quoRem_s7 (a, sc, u, v, ()) = some (Ex.exit 1, (a, sc, u', v, ())) ∧ Wf u' ∧ u'.length = a.length + 1 ∧ lv u' = lv u := by
  obtain ⟨r, hr, u', rfl, h1, h2, h3⟩ := loopO_ind (step := n_nat_quoRem_s7) (Q := fun r => ∃ u', r = (Ex.exit 1, (a, sc, u', v, ())) ∧ Wf u' ∧ u'.length = a.length + 1 ∧ lv u' = lv u)
    (fun m x => ∃ u' : List Int, x = (a, sc, u', v, ()) ∧ m + u'.length = a.length + 1 ∧ Wf u' ∧ lv u' = lv u) (by
      rintro m x ⟨u', rfl, hm, h1, h2⟩
      by_cases h : u'.length ≤ a.length
      · refine .inr ⟨m - 1, (a, sc, u' ++ [0], v, ()), ?_, by omega, _, rfl, by simp; omega, h1.app (Wf.one (by omega)), by rw [lv_snoc, h2]; simp⟩
        simp (disch := (first | omega | (simp only [maxN_eq, List.length_append, List.length_cons, List.length_nil, List.length_set, List.length_replicate, List.length_take, List.length_drop]; omega))) only [n_nat_quoRem_s7, grd_tt, grd_and, grd_dec, grd_ne, cond_dt, cond_df, cond_et, cond_ef, cond_nt, cond_nf, w64, wu64, wu32, wu8, tm, td, bind_some', same_ee, same_er, same_re, same_rr, cond_t, cond_f]
      · refine .inl ⟨(Ex.exit 1, (a, sc, u', v, ())), ?_, by simp, u', rfl, h1, by omega, h2⟩
        simp (disch := (first | omega | (simp only [maxN_eq, List.length_append, List.length_cons, List.length_nil, List.length_set, List.length_replicate, List.length_take, List.length_drop]; omega))) only [n_nat_quoRem_s7, grd_tt, grd_and, grd_dec, grd_ne, cond_dt, cond_df, cond_et, cond_ef, cond_nt, cond_nf, w64, wu64, wu32, wu8, tm, td, bind_some', same_ee, same_er, same_re, same_rr, cond_t, cond_f]) (a.length + 1 - u.length) _ ⟨u, rfl, by omega, hu, rfl⟩
  exact ⟨u', hr, h1, h2, h3⟩

theorem quoRem_eq (m n : Nat) (hm : (limbs m).length ≤ 100000000) (hn : (limbs n).length ≤ 100000000) (h0 : n ≠ 0) :
    n_nat_quoRem (limbs m) (limbs n) = some ((limbs (m / n), limbs (m % n), ()), ()) := by
  obtain ⟨c, hc, hc1, hc2⟩ := cmp_eq m n (by omega) (by omega)
  unfold n_nat_quoRem
  rw [hc]
  by_cases hlt : m < n
  · have := hc1.2 hlt
    simp (disch := (first | omega | (simp only [maxN_eq, List.length_append, List.length_cons, List.length_nil, List.length_set, List.length_replicate, List.length_take, List.length_drop]; omega))) only [grd_tt, grd_and, grd_dec, grd_ne, cond_dt, cond_df, cond_et, cond_ef, cond_nt, cond_nf, w64, wu64, wu32, wu8, tm, td, bind_some', same_ee, same_er, same_re, same_rr, cond_t, cond_f]
    rw [Nat.div_eq_of_lt hlt, Nat.mod_eq_of_lt hlt, limbs_zero]
  · have hc0 : ¬ c < 0 := fun h => hlt (hc1.1 h)
    by_cases hl1 : (limbs n).length = 1
    · have hnB : n < 1000000000 := by
        have := limbs_len_lt n
        rw [hl1] at this; simp [bp] at this; omega
      have hq := quoLimb_eq m n (by omega) (by omega)
      have hg : (limbs n).getD 0 0 = (n : Int) := by rw [limbs_small h0 hnB]; rfl
      have h00 : ((0 : Int)).toNat = 0 := rfl
      simp (disch := (first | omega | (simp only [maxN_eq, List.length_append, List.length_cons, List.length_nil, List.length_set, List.length_replicate, List.length_take, List.length_drop]; omega))) only [h00, hg, hq, grd_tt, grd_and, grd_dec, grd_ne, cond_dt, cond_df, cond_et, cond_ef, cond_nt, cond_nf, w64, wu64, wu32, wu8, tm, td, bind_some', same_ee, same_er, same_re, same_rr, cond_t, cond_f]
    · obtain ⟨lb, hlb⟩ : ∃ lb, lb = (limbs n).length := ⟨_, rfl⟩
      obtain ⟨la, hla⟩ : ∃ la, la = (limbs m).length := ⟨_, rfl⟩
      have hlb2 : 2 ≤ lb := by
        rcases Nat.lt_or_ge (limbs n).length 1 with h | h
        · have : limbs n = [] := List.eq_nil_of_length_eq_zero (by omega)
          exact absurd (limbs_nil.1 this) h0
        · omega
      have hab : lb ≤ la := by rw [hlb, hla]; exact limbs_len_mono (by omega)
      have hbw := limbs_wf n
      obtain ⟨t, ht⟩ : ∃ t, t = (limbs n).getD (lb - 1) 0 := ⟨_, rfl⟩
      have htb := hbw.at (lb - 1)
      have htop := limbs_top n (lb - 1) (by omega)
      rw [← ht] at htb htop
      obtain ⟨s, hs⟩ : ∃ s : Nat, (s : Int) = 1000000000 / (t + 1) := ⟨(1000000000 / (t + 1)).toNat, by have := Int.ediv_nonneg (show (0 : Int) ≤ 1000000000 by omega) (show 0 ≤ t + 1 by omega); omega⟩
      have hs1 : 1 ≤ (s : Int) := by rw [hs]; exact Int.le_ediv_of_mul_le (by omega) (by omega)
      have hst : (s : Int) * (t + 1) ≤ 1000000000 := by rw [hs]; exact Int.ediv_mul_le _ (by omega)
      have hs2 : (s : Int) ≤ 500000000 := by
        have : (s : Int) * 2 ≤ (s : Int) * (t + 1) := Int.mul_le_mul_of_nonneg_left (by omega) (by omega)
        omega
      have hsl : limbs s = [(s : Int)] := limbs_small (by omega) (by omega)
      have hau := mul_r_lv (limbs_wf m) (Wf.one (x := (s : Int)) (by omega)) (by omega) (by simp)
      have hbu := mul_r_lv hbw (Wf.one (x := (s : Int)) (by omega)) (by omega) (by simp)
      rw [lv_limbs, lv_one, ← Int.natCast_mul, Int.toNat_natCast] at hau hbu
      have hls : (limbs s).length = 1 := by rw [hsl]; rfl
      -- the scaled divisor has as many limbs
      have hnlt : (n : Int) < (t + 1) * bp (lb - 1) := by
        have e := lv_split (limbs n) (lb - 1) (by omega)
        rw [lv_drop (by omega), show lb - 1 + 1 = lb by omega, List.drop_of_length_le (by omega), lv_limbs, ← ht] at e
        have h1 := lv_lt (hbw.take (lb - 1))
        rw [List.length_take, Nat.min_eq_left (by omega)] at h1
        simp only [lv] at e
        grind
      have hvlen : (limbs (n * s)).length = lb := by
        have hup : (limbs (n * s)).length ≤ lb := by
          refine limbs_len_le ?_
          rw [Int.natCast_mul]
          have e1 : (n : Int) * s < (t + 1) * bp (lb - 1) * s := Int.mul_lt_mul_of_pos_right hnlt (by omega)
          have e2 : s * (t + 1) * bp (lb - 1) ≤ 1000000000 * bp (lb - 1) := Int.mul_le_mul_of_nonneg_right hst (by have := bp_pos (lb - 1); omega)
          have e3 : bp lb = 1000000000 * bp (lb - 1) := by rw [← bp_succ, show lb - 1 + 1 = lb by omega]
          grind
        have hlo : (limbs n).length ≤ (limbs (n * s)).length := limbs_len_mono (Nat.le_mul_of_pos_right n (by omega))
        omega
      have hulen : (limbs (m * s)).length ≤ (limbs m).length + 1 := by
        have := limbs_len_mul m s
        omega
      obtain ⟨u', hpad, hu1, hu2, hu3⟩ := pad_loop (u := limbs (m * s)) (sc := [(s : Int)]) (v := limbs (n * s)) (a := limbs m) (limbs_wf _) hulen (by omega)
      obtain ⟨K, hK⟩ : ∃ K : Nat, K = la + 1 - lb := ⟨_, rfl⟩
      have hvt := limbs_top (n * s) (lb - 1) (by omega)
      rw [lv_limbs] at hu3
      have hVK : lv u' < lv (limbs (n * s)) * bp K := by
        rw [hu3, lv_limbs, Int.natCast_mul, Int.natCast_mul]
        have e1 : (m : Int) < bp la := by rw [hla]; exact limbs_len_lt m
        have e2 : bp (lb - 1) ≤ (n : Int) := by rw [hlb]; exact limbs_len_ge h0
        have e3 : bp la = bp (lb - 1) * bp K := by rw [← bp_add, show lb - 1 + K = la by omega]
        have e4 : bp (lb - 1) * bp K ≤ (n : Int) * bp K := Int.mul_le_mul_of_nonneg_right e2 (by have := bp_pos K; omega)
        have e5 : (m : Int) * s < (n : Int) * bp K * s := Int.mul_lt_mul_of_pos_right (by omega) (by omega)
        grind
      obtain ⟨u2, q, hloop, g1, g2, g3, g4, g5, g6⟩ := quo_loop (sc := [(s : Int)]) (K := K) hu1 (limbs_wf (n * s)) hvlen hlb2 (by omega) (by omega) hvt hVK
      rw [hu3, lv_limbs] at g6
      rw [lv_limbs] at g5
      -- quotient and remainder
      have hns : 0 < n * s := Nat.mul_pos (by omega) (by omega)
      have hu20 := lv_nonneg g1
      have hdiv : lv q = ((m / n : Nat) : Int) := by
        have e : ((m * s : Nat) : Int) / ((n * s : Nat) : Int) = lv q := by
          rw [g6, Int.add_mul_ediv_left _ _ (by omega), Int.ediv_eq_zero_of_lt hu20 g5]; omega
        rw [← e, ← Int.natCast_ediv, Nat.mul_div_mul_right _ _ (by omega)]
      have hmod : lv u2 = ((m % n * s : Nat) : Int) := by
        have e : ((m * s : Nat) : Int) % ((n * s : Nat) : Int) = lv u2 := by
          rw [g6, Int.add_mul_emod_self_left, Int.emod_eq_of_lt hu20 g5]
        rw [← e, ← Int.natCast_emod, Nat.mul_mod_mul_right]
      have ht7 := trim_eq g1 (by omega)
      rw [hmod, Int.toNat_natCast] at ht7
      have hlen7 : (limbs (m % n * s)).length ≤ 1000000000 := by
        have h1 := limbs_len_mul (m % n) s
        have h2 := limbs_len_mono (Nat.le_of_lt (Nat.mod_lt m (show n > 0 by omega)))
        omega
      have hq8 := quoLimb_eq (m % n * s) s hlen7 (by omega)
      rw [Nat.mul_div_cancel _ (by omega)] at hq8
      have ht9 := trim_eq g3 (by omega)
      rw [hdiv, Int.toNat_natCast] at ht9
      have hwrap : ((lb : Int) - 1).toNat = lb - 1 := by omega
      have hKi : ((la + 1 : Nat) : Int) - (lb : Int) = (K : Int) := by omega
      have hKn : ((K : Int)).toNat = K := by omega
      have hlbi : ((limbs n).length : Int) = (lb : Int) := by omega
      have hvli : ((limbs (n * s)).length : Int) = (lb : Int) := by omega
      have hu2i : ((u'.length : Nat) : Int) = ((la + 1 : Nat) : Int) := by omega
      have hrl : (((List.replicate K (0 : Int)).length : Nat) : Int) = (K : Int) := by simp
      have h00 : ((0 : Int)).toNat = 0 := rfl
      have hg0 : ([(s : Int)] : List Int).getD 0 0 = (s : Int) := rfl
      simp (disch := (first | omega | (simp only [maxN_eq, List.length_append, List.length_cons, List.length_nil, List.length_set, List.length_replicate, List.length_take, List.length_drop]; omega))) only [hwrap, hlbi, ← ht, ← hs, hau, hbu, hpad, hu2i, hvli, hKi, hKn, hrl, hloop, ht7, h00, hg0, hq8, ht9, grd_tt, grd_and, grd_dec, grd_ne, cond_dt, cond_df, cond_et, cond_ef, cond_nt, cond_nf, w64, wu64, wu32, wu8, tm, td, bind_some', same_ee, same_er, same_re, same_rr, cond_t, cond_f]
end Go.AM.Num
end
section
set_option linter.unusedSimpArgs false
set_option linter.unusedVariables false
namespace Go.AM.Num

theorem gcd_eq (m n : Nat) (hm : (limbs m).length ≤ 100000000) (hn : (limbs n).length ≤ 100000000) : n_gcd (limbs m) (limbs n) = some ((limbs (Nat.gcd m n), ()), ()) := by
  obtain ⟨r, hr, b, rfl⟩ := loopO_ind (step := n_gcd_s1) (Q := fun r => ∃ b, r = (Ex.exit 0, (limbs (Nat.gcd m n), b, ())))
    (fun k x => ∃ a b : Nat, x = (limbs a, limbs b, ()) ∧ k = b ∧ Nat.gcd a b = Nat.gcd m n ∧ (limbs a).length ≤ 100000000 ∧ (limbs b).length ≤ 100000000) (by
      rintro k x ⟨a, b, rfl, rfl, hg, ha, hb⟩
      by_cases h0 : k = 0
      · subst h0
        refine .inl ⟨_, ?_, ?_, limbs 0, rfl⟩
        · rw [limbs_zero]
          simp only [n_gcd_s1]
          rw [← hg, Nat.gcd_zero_right]
          rfl
        · simp
      · have hl : (limbs k).length ≠ 0 := fun e => h0 (limbs_nil.1 (List.eq_nil_of_length_eq_zero e))
        have hq := quoRem_eq a k ha hb h0
        refine .inr ⟨a % k, _, ?_, Nat.mod_lt _ (by omega), k, a % k, rfl, rfl, ?_, hb, ?_⟩
        · simp (disch := (first | omega | (simp only [maxN_eq, List.length_append, List.length_cons, List.length_nil, List.length_set, List.length_replicate, List.length_take, List.length_drop]; omega))) only [n_gcd_s1, hq, grd_tt, grd_and, grd_dec, grd_ne, cond_dt, cond_df, cond_et, cond_ef, cond_nt, cond_nf, w64, wu64, wu32, wu8, tm, td, bind_some', same_ee, same_er, same_re, same_rr, cond_t, cond_f]
        · rw [Nat.gcd_comm, ← Nat.gcd_rec, Nat.gcd_comm, hg]
        · exact Nat.le_trans (limbs_len_mono (Nat.le_of_lt (Nat.mod_lt _ (by omega)))) hb) n _ ⟨m, n, rfl, rfl, rfl, hm, hn⟩
  unfold n_gcd
  rw [hr]
  simp (disch := (first | omega | (simp only [maxN_eq, List.length_append, List.length_cons, List.length_nil, List.length_set, List.length_replicate, List.length_take, List.length_drop]; omega))) only [grd_tt, grd_and, grd_dec, grd_ne, cond_dt, cond_df, cond_et, cond_ef, cond_nt, cond_nf, w64, wu64, wu32, wu8, tm, td, bind_some', same_ee, same_er, same_re, same_rr, cond_t, cond_f]

theorem limbs_one : limbs 1 = [1] := by rw [limbs_small (by decide) (by decide)]; rfl

theorem lowest_eq (neg : Bool) (m d : Nat) (hd : d ≠ 0) (hm : (limbs m).length ≤ 100000000) (hdl : (limbs d).length ≤ 100000000) :
    n_lowest neg (limbs m) (limbs d) = some (((neg, limbs (m / Nat.gcd m d), limbs (d / Nat.gcd m d)), ()), ()) := by
  have hg0 : Nat.gcd m d ≠ 0 := fun e => hd (Nat.gcd_eq_zero_iff.1 e).2
  have hgl : (limbs (Nat.gcd m d)).length ≤ 100000000 := Nat.le_trans (limbs_len_mono (Nat.le_of_dvd (by omega) (Nat.gcd_dvd_right m d))) hdl
  unfold n_lowest
  by_cases h1 : Nat.gcd m d = 1
  · simp (disch := (first | omega | (simp only [maxN_eq, List.length_append, List.length_cons, List.length_nil, List.length_set, List.length_replicate, List.length_take, List.length_drop]; omega))) only [gcd_eq m d hm hdl, one_eq, h1, grd_tt, grd_and, grd_dec, grd_ne, cond_dt, cond_df, cond_et, cond_ef, cond_nt, cond_nf, w64, wu64, wu32, wu8, tm, td, bind_some', same_ee, same_er, same_re, same_rr, cond_t, cond_f]
    simp
  · simp (disch := (first | omega | (simp only [maxN_eq, List.length_append, List.length_cons, List.length_nil, List.length_set, List.length_replicate, List.length_take, List.length_drop]; omega))) only [gcd_eq m d hm hdl, one_eq, quoRem_eq m _ hm hgl hg0, quoRem_eq d _ hdl hgl hg0, grd_tt, grd_and, grd_dec, grd_ne, cond_dt, cond_df, cond_et, cond_ef, cond_nt, cond_nf, w64, wu64, wu32, wu8, tm, td, bind_some', same_ee, same_er, same_re, same_rr, cond_t, cond_f]
    simp [h1]

/-! ### Decimal text -/
abbrev dd (n : Nat) : List UInt8 := Lib.decDigits n
theorem dd_small {n : Nat} (h : n < 10) : dd n = [UInt8.ofNat (48 + n)] := by unfold dd; rw [Lib.decDigits, dif_pos h]
theorem dd_big {n : Nat} (h : ¬ n < 10) : dd n = dd (n / 10) ++ [UInt8.ofNat (48 + n % 10)] := by unfold dd; rw [Lib.decDigits, dif_neg h]
theorem dig_of {k : Nat} (h : k < 10) : dig (UInt8.ofNat (48 + k)) = k ∧ isD (UInt8.ofNat (48 + k)) := by
  have : (UInt8.ofNat (48 + k)).toNat = 48 + k := by simp [UInt8.toNat_ofNat]; omega
  exact ⟨by unfold dig; omega, by unfold isD; omega⟩
theorem dd_ne (n : Nat) : dd n ≠ [] := by
  by_cases h : n < 10
  · rw [dd_small h]; simp
  · rw [dd_big h]; simp
theorem dd_D (n : Nat) : AllD (dd n) := by
  induction n using Nat.strongRecOn with
  | _ n ih =>
    by_cases h : n < 10
    · rw [dd_small h]; intro c hc; rw [List.mem_singleton.1 hc]; exact (dig_of h).2
    · rw [dd_big h]
      refine (ih (n / 10) (by omega)).app fun c hc => ?_
      rw [List.mem_singleton.1 hc]; exact (dig_of (by omega)).2
theorem dval_dd (n : Nat) : dval (dd n) = n := by
  induction n using Nat.strongRecOn with
  | _ n ih =>
    by_cases h : n < 10
    · rw [dd_small h, show [UInt8.ofNat (48 + n)] = [] ++ [UInt8.ofNat (48 + n)] from rfl, dval_snoc, (dig_of h).1]; simp [dval]
    · rw [dd_big h, dval_snoc, ih (n / 10) (by omega), (dig_of (by omega)).1]; omega
theorem dd_inj {m n : Nat} (h : dd m = dd n) : m = n := by rw [← dval_dd m, h, dval_dd]
theorem dd_zero : dd 0 = [48] := by rw [dd_small (by decide)]; rfl
theorem dd_one : dd 1 = [49] := by rw [dd_small (by decide)]; rfl
theorem dd_head {n : Nat} (h : n ≠ 0) : ∃ c s, dd n = c :: s ∧ isD c ∧ c ≠ 48 := by
  induction n using Nat.strongRecOn with
  | _ n ih =>
    by_cases h1 : n < 10
    · refine ⟨UInt8.ofNat (48 + n), [], dd_small h1, (dig_of h1).2, fun e => ?_⟩
      have := (dig_of h1).1
      rw [e] at this
      simp [dig] at this; omega
    · obtain ⟨c, s, e, hc⟩ := ih (n / 10) (by omega) (by omega)
      exact ⟨c, s ++ [UInt8.ofNat (48 + n % 10)], by rw [dd_big h1, e]; rfl, hc⟩
/-- Canonical digits are their value's text. -/
theorem dd_of {s : List UInt8} (hd : AllD s) (hne : s ≠ []) (hc : s = [48] ∨ s.head? ≠ some 48) : s = dd (dval s) := by
  rcases hc with rfl | hc
  · rw [show dval [48] = 0 from rfl, dd_zero]
  · have key : ∀ (n : Nat) (s : List UInt8), s.length = n → AllD s → s ≠ [] → s.head? ≠ some 48 → s = dd (dval s) ∧ dval s ≠ 0 := by
      intro n
      induction n with
      | zero => intro s hl _ hne; exact absurd (List.eq_nil_of_length_eq_zero hl) hne
      | succ n ih =>
        intro s hl hd hne hc
        obtain ⟨t, c, rfl⟩ : ∃ t c, s = t ++ [c] := ⟨s.dropLast, s.getLast hne, (List.dropLast_concat_getLast hne).symm⟩
        have hcd : isD c := hd c (by simp)
        have hcl := dig_lt hcd
        have hofc : UInt8.ofNat (48 + dig c) = c := by
          have h1 := hcd.1
          have : 48 + dig c = c.toNat := by unfold dig; omega
          rw [this]; simp
        by_cases ht : t = []
        · subst ht
          have h0 : dig c ≠ 0 := by
            intro e
            apply hc
            have h1 := hcd.1
            have h2 : c.toNat = 48 := by unfold dig at e; omega
            simp only [List.nil_append, List.head?_cons, Option.some.injEq]
            exact UInt8.toNat_inj.1 h2
          rw [dval_snoc, dval_nil]
          refine ⟨?_, by omega⟩
          rw [dd_small (by omega)]
          simp [hofc]
        · obtain ⟨e1, e2⟩ := ih t (by simpa using hl) (fun x hx => hd x (by simp [hx])) ht (by
            cases t with
            | nil => exact absurd rfl ht
            | cons x t => simpa using hc)
          rw [dval_snoc]
          refine ⟨?_, by omega⟩
          rw [dd_big (by omega), show (10 * dval t + dig c) / 10 = dval t by omega, show (10 * dval t + dig c) % 10 = dig c by omega, ← e1, hofc]
    exact (key _ s rfl hd hne hc).1

theorem dd_lt_len {n k : Nat} (h : n < 10 ^ k) (hk : 0 < k) : (dd n).length ≤ k := by
  induction k generalizing n with
  | zero => omega
  | succ k ih =>
    by_cases h1 : n < 10
    · rw [dd_small h1]; simp
    · rw [dd_big h1, List.length_append]
      have hk0 : 0 < k := by
        rcases Nat.eq_zero_or_pos k with h0 | h0
        · subst h0; simp at h; omega
        · exact h0
      have := ih (n := n / 10) (by rw [Nat.pow_succ] at h; omega) hk0
      simp; omega
theorem dd_len_lt (n : Nat) : n < 10 ^ (dd n).length := by
  have := dval_lt (dd_D n)
  rwa [dval_dd] at this
theorem dd_len_pos (n : Nat) : 0 < (dd n).length := List.length_pos_iff.2 (dd_ne n)
theorem dd_len_mono {m n : Nat} (h : m ≤ n) : (dd m).length ≤ (dd n).length := dd_lt_len (Nat.lt_of_le_of_lt h (dd_len_lt n)) (dd_len_pos n)
theorem dd_len_add (m n : Nat) : (dd (m + n)).length ≤ max (dd m).length (dd n).length + 1 := by
  apply dd_lt_len _ (by omega)
  have h1 := dd_len_lt m
  have h2 := dd_len_lt n
  have h3 : 10 ^ (dd m).length ≤ 10 ^ (max (dd m).length (dd n).length) := Nat.pow_le_pow_right (by decide) (by omega)
  have h4 : 10 ^ (dd n).length ≤ 10 ^ (max (dd m).length (dd n).length) := Nat.pow_le_pow_right (by decide) (by omega)
  rw [Nat.pow_succ]; omega
theorem dd_len_mul (m n : Nat) : (dd (m * n)).length ≤ (dd m).length + (dd n).length := by
  apply dd_lt_len _ (by have := dd_len_pos m; omega)
  rw [Nat.pow_add]
  exact Nat.mul_lt_mul'' (dd_len_lt m) (dd_len_lt n)
theorem limbs_le_dd (n : Nat) : (limbs n).length ≤ (dd n).length := by
  apply limbs_len_le
  rw [bp_ten]
  have h1 := dd_len_lt n
  have h2 : 10 ^ (dd n).length ≤ 10 ^ (9 * (dd n).length) := Nat.pow_le_pow_right (by decide) (by omega)
  omega

/-! ### nat.text -/
theorem pad9_D {y : Int} (h : 0 ≤ y ∧ y < 1000000000) : AllD (pad9 y) := by
  unfold pad9
  refine AllD.app (fun c hc => ?_) (dd_D _)
  rw [List.eq_of_mem_replicate hc]
  exact ⟨by decide, by decide⟩
theorem dval_zeros (k : Nat) (s : List UInt8) : dval (List.replicate k 48 ++ s) = dval s := by
  rw [dval_app]
  have : dval (List.replicate k 48) = 0 := by
    induction k with
    | zero => rfl
    | succ k ih => rw [List.replicate_succ', dval_snoc, ih]; rfl
  rw [this]; simp
theorem pad9_len {y : Int} (h : 0 ≤ y ∧ y < 1000000000) : (pad9 y).length = 9 := by
  have : (dd y.toNat).length ≤ 9 := dd_lt_len (by simp; omega) (by decide)
  unfold pad9
  simp; unfold dd at this; omega
theorem dval_pad9 (y : Int) : dval (pad9 y) = y.toNat := by unfold pad9; rw [dval_zeros]; exact dval_dd _
theorem dd_step {n : Nat} (h : n / 1000000000 ≠ 0) : dd n = dd (n / 1000000000) ++ pad9 ((n % 1000000000 : Nat) : Int) := by
  have hb : 0 ≤ ((n % 1000000000 : Nat) : Int) ∧ ((n % 1000000000 : Nat) : Int) < 1000000000 := by omega
  obtain ⟨c, s, e, _, hc⟩ := dd_head h
  have hv : dval (dd (n / 1000000000) ++ pad9 ((n % 1000000000 : Nat) : Int)) = n := by
    rw [dval_app, dval_dd, dval_pad9, pad9_len hb]
    simp; omega
  have := dd_of (s := dd (n / 1000000000) ++ pad9 ((n % 1000000000 : Nat) : Int)) ((dd_D _).app (pad9_D hb)) (by simp [dd_ne]) (.inr (by rw [e]; simpa using hc))
  rw [hv] at this
  exact this.symm
theorem natText_limbs (n : Nat) : natText (limbs n) = dd n := by
  induction n using Nat.strongRecOn with
  | _ n ih =>
    by_cases h0 : n = 0
    · subst h0; rw [limbs_zero, dd_zero]; rfl
    · by_cases h1 : n / 1000000000 = 0
      · rw [limbs_small h0 (by omega)]
        show Lib.decDigits ((n : Int)).toNat ++ [] = _
        simp
      · rw [dd_step h1, ← ih (n / 1000000000) (by omega), limbs_pos h0]
        unfold natText
        rw [List.reverse_cons]
        cases hr : (limbs (n / 1000000000)).reverse with
        | nil => exact absurd (limbs_nil.1 (by simpa using hr)) h1
        | cons x r => simp
theorem limbs_all (n : Nat) : (limbs n).all (fun x => decide (0 ≤ x ∧ x < 1000000000)) = true := by
  rw [List.all_eq_true]
  intro x hx
  simpa using limbs_wf n x hx
theorem text_eq (n : Nat) (h : (limbs n).length ≤ 1000000000) : n_nat_text (limbs n) = some ((dd n, ()), ()) := by
  unfold n_nat_text
  rw [if_pos ⟨by omega, limbs_all n⟩, natText_limbs]
end Go.AM.Num
end
