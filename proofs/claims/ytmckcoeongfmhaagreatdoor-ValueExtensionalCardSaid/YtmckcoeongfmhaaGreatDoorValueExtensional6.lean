/- Law ValueExtensional of the values: a machine of plain values, what the program's functions compute in it, and what that is. No condition beyond what the statement says. -/
import Derived.Test.YtmckcoeongfmhaaGreatDoorValueExtensional5
import Derived.Lib.SlTrimSet
import Derived.Test.YtmckcoeongfmhaaGreatDoorValueExtensional3
import Derived.Test.YtmckcoeongfmhaaGreatDoorRows
import Derived.Shelf.Vars
import Derived.Lib.LaidTab
import Derived.ProofKit
import Derived.MakeChecks
import Derived.OpenShut
import Derived.Lib.Strings
import Derived.SliceStrings
import Derived.SizedLaws
import Derived.Test.YtmckcoeongfmhaaGreatDoorCards
import Derived.Test.YtmckcoeongfmhaaGreatDoorTie
import Derived.ShutString
import Derived.ChangeOld
import Derived.Below
import Derived.LaidMore
import Derived.Deep.DeepHandedRow
import Derived.Deep.DeepWitnessRowRef
import GoSem.PinnedTables
set_option linter.unusedSimpArgs false
set_option linter.unusedVariables false
section
set_option linter.unusedSimpArgs false
set_option linter.unusedVariables false
namespace Go.AM.Num
theorem cutP_yes (r : List UInt8) (c : UInt8) : strings_CutPrefix (c :: r) [c] = some ((r, true, ()), ()) := by
  simp [strings_CutPrefix, Lib.trimPrefix, Lib.hasPrefix]
theorem cutP_no {s : List UInt8} {c : UInt8} (h : ∀ r, s ≠ c :: r) : strings_CutPrefix s [c] = some ((s, false, ()), ()) := by
  have hp : Lib.hasPrefix s [c] = false := by
    unfold Lib.hasPrefix
    cases s with
    | nil => rfl
    | cons b t =>
      simp only [List.isPrefixOf, Bool.and_true, beq_eq_false_iff_ne, ne_eq]
      rintro rfl
      exact h t rfl
  simp [strings_CutPrefix, Lib.trimPrefix, hp]
theorem index_yes {x y : List UInt8} {c : UInt8} (hx : c ∉ x) : Lib.index (x ++ c :: y) [c] = x.length := by
  induction x with
  | nil => unfold Lib.index; simp [List.isPrefixOf]
  | cons b x ih =>
    have hb : (c == b) = false := by rw [beq_eq_false_iff_ne]; rintro rfl; exact hx List.mem_cons_self
    have := ih fun h => hx (List.mem_cons_of_mem _ h)
    simp only [List.cons_append]
    unfold Lib.index
    simp only [List.isPrefixOf, hb, Bool.false_and, this]
    have h1 : ((x.length : Int) == -1) = false := by rw [beq_eq_false_iff_ne]; omega
    simp [h1]
theorem index_no {s : List UInt8} {c : UInt8} (hs : c ∉ s) : Lib.index s [c] = -1 := by
  induction s with
  | nil => rfl
  | cons b s ih =>
    have hb : (c == b) = false := by rw [beq_eq_false_iff_ne]; rintro rfl; exact hs List.mem_cons_self
    unfold Lib.index
    simp [List.isPrefixOf, hb, ih fun h => hs (List.mem_cons_of_mem _ h)]
theorem cut_yes {x y : List UInt8} {c : UInt8} (hx : c ∉ x) (hl : (x ++ c :: y).length ≤ 1000000000) : strings_Cut (x ++ c :: y) [c] = some ((x, y, true, ()), ()) := by
  unfold strings_Cut
  rw [if_pos (by omega)]
  simp [Lib.cut, index_yes hx]
theorem cut_no {s : List UInt8} {c : UInt8} (hs : c ∉ s) (hl : s.length ≤ 1000000000) : strings_Cut s [c] = some ((s, [], false, ()), ()) := by
  unfold strings_Cut
  rw [if_pos (by omega)]
  simp [Lib.cut, index_no hs]

theorem split_at (c : UInt8) (s : List UInt8) : (∃ x y, s = x ++ c :: y ∧ c ∉ x) ∨ c ∉ s := by
  induction s with
  | nil => exact .inr (by simp)
  | cons b s ih =>
    by_cases h : b = c
    · subst h; exact .inl ⟨[], s, rfl, by simp⟩
    · rcases ih with ⟨x, y, rfl, hx⟩ | hs
      · refine .inl ⟨b :: x, y, rfl, ?_⟩
        intro hm
        rcases List.mem_cons.1 hm with rfl | hm
        · exact h rfl
        · exact hx hm
      · refine .inr ?_
        intro hm
        rcases List.mem_cons.1 hm with rfl | hm
        · exact h rfl
        · exact hs hm

theorem getD_map {s : List UInt8} {k : Nat} (h : k < s.length) : (s.map (fun b => (b.toNat : Int))).getD k 0 = (s[k].toNat : Int) := by
  rw [List.getD_eq_getElem?_getD, List.getElem?_map, List.getElem?_eq_getElem h]; rfl
theorem numeral_loop (s : List UInt8) (hl : s.length ≤ 1000000000) :
    (AllD s ∧ loopO n_numeral_s2 (s, false, s.map (fun b => (b.toNat : Int)), (s.length : Int), 0, ()) = some (Ex.exit 0, (s, false, s.map (fun b => (b.toNat : Int)), (s.length : Int), (s.length : Int), ()))) ∨
    (¬ AllD s ∧ ∃ i, loopO n_numeral_s2 (s, false, s.map (fun b => (b.toNat : Int)), (s.length : Int), 0, ()) = some (Ex.ret, (s, false, s.map (fun b => (b.toNat : Int)), (s.length : Int), i, ()))) := by
  obtain ⟨r, hr, hq⟩ := loopO_ind (step := n_numeral_s2) (Q := fun r => (AllD s ∧ r = (Ex.exit 0, (s, false, s.map (fun b => (b.toNat : Int)), (s.length : Int), (s.length : Int), ()))) ∨ (¬ AllD s ∧ ∃ i, r = (Ex.ret, (s, false, s.map (fun b => (b.toNat : Int)), (s.length : Int), i, ()))))
    (fun m x => ∃ k : Nat, m + k = s.length ∧ x = (s, false, s.map (fun b => (b.toNat : Int)), (s.length : Int), (k : Int), ()) ∧ AllD (s.take k)) (by
      rintro m x ⟨k, hm, rfl, hd⟩
      by_cases hk : k < s.length
      · have hg := getD_map hk
        have e : (k : Int).toNat = k := by omega
        have hml : (s.map (fun b => (b.toNat : Int))).length = s.length := by simp
        have hmem : s[k] ∈ s := List.getElem_mem hk
        by_cases h1 : s[k].toNat < 48
        · refine .inl ⟨_, ?_, ?_, .inr ⟨fun h => ?_, (k : Int), rfl⟩⟩
          · simp (disch := (first | omega | (simp only [maxN_eq, List.length_append, List.length_cons, List.length_nil, List.length_set, List.length_replicate, List.length_take, List.length_drop]; omega))) only [n_numeral_s2, e, hg, hml, grd_tt, grd_and, grd_dec, grd_ne, cond_dt, cond_df, cond_et, cond_ef, cond_nt, cond_nf, w64, wu64, wu32, wu8, tm, td, bind_some', same_ee, same_er, same_re, same_rr, cond_t, cond_f, Bool.not_true, Bool.not_false]
          · simp
          · have := (h _ hmem).1; omega
        · by_cases h2 : s[k].toNat > 57
          · refine .inl ⟨_, ?_, ?_, .inr ⟨fun h => ?_, (k : Int), rfl⟩⟩
            · simp (disch := (first | omega | (simp only [maxN_eq, List.length_append, List.length_cons, List.length_nil, List.length_set, List.length_replicate, List.length_take, List.length_drop]; omega))) only [n_numeral_s2, e, hg, hml, grd_tt, grd_and, grd_dec, grd_ne, cond_dt, cond_df, cond_et, cond_ef, cond_nt, cond_nf, w64, wu64, wu32, wu8, tm, td, bind_some', same_ee, same_er, same_re, same_rr, cond_t, cond_f, Bool.not_true, Bool.not_false]
            · simp
            · have := (h _ hmem).2; omega
          · refine .inr ⟨m - 1, _, ?_, by omega, k + 1, by omega, rfl, ?_⟩
            · simp (disch := (first | omega | (simp only [maxN_eq, List.length_append, List.length_cons, List.length_nil, List.length_set, List.length_replicate, List.length_take, List.length_drop]; omega))) only [n_numeral_s2, e, hg, hml, grd_tt, grd_and, grd_dec, grd_ne, cond_dt, cond_df, cond_et, cond_ef, cond_nt, cond_nf, w64, wu64, wu32, wu8, tm, td, bind_some', same_ee, same_er, same_re, same_rr, cond_t, cond_f, Bool.not_true, Bool.not_false]
              rfl
            · rw [List.take_succ_eq_append_getElem hk]
              refine hd.app fun c hc => ?_
              rw [List.mem_singleton.1 hc]
              exact ⟨by omega, by omega⟩
      · have hks : k = s.length := by omega
        subst hks
        refine .inl ⟨_, ?_, ?_, .inl ⟨by simpa using hd, rfl⟩⟩
        · simp (disch := (first | omega | (simp only [maxN_eq, List.length_append, List.length_cons, List.length_nil, List.length_set, List.length_replicate, List.length_take, List.length_drop]; omega))) only [n_numeral_s2, grd_tt, grd_and, grd_dec, grd_ne, cond_dt, cond_df, cond_et, cond_ef, cond_nt, cond_nf, w64, wu64, wu32, wu8, tm, td, bind_some', same_ee, same_er, same_re, same_rr, cond_t, cond_f, Bool.not_true, Bool.not_false]
        · simp) s.length _ ⟨0, by omega, rfl, by simp [AllD]⟩
  rcases hq with ⟨h, rfl⟩ | ⟨h, i, rfl⟩
  · exact .inl ⟨h, hr⟩
  · exact .inr ⟨h, i, hr⟩
theorem beq_of {s t : List UInt8} (h : s = t) : (s == t) = true := by simpa using h
theorem beq_ne {s t : List UInt8} (h : s ≠ t) : (s == t) = false := by simpa using h
theorem numeral_eq (s : List UInt8) (hl : s.length ≤ 1000000000) : n_numeral s = some ((s == dd (dval s), ()), ()) := by
  unfold n_numeral
  have hml : ((s.map (fun b => (b.toNat : Int))).length : Int) = (s.length : Int) := by simp
  rw [hml]
  rcases numeral_loop s hl with ⟨hd, hr⟩ | ⟨hd, i, hr⟩
  · simp (disch := (first | omega | (simp only [maxN_eq, List.length_append, List.length_cons, List.length_nil, List.length_set, List.length_replicate, List.length_take, List.length_drop]; omega))) only [hr, grd_tt, grd_and, grd_dec, grd_ne, cond_dt, cond_df, cond_et, cond_ef, cond_nt, cond_nf, w64, wu64, wu32, wu8, tm, td, bind_some', same_ee, same_er, same_re, same_rr, cond_t, cond_f, Bool.not_true, Bool.not_false]
    by_cases h48 : s = [48]
    · subst h48
      rw [beq_of rfl]
      have : ([48] == dd (dval [48])) = true := beq_of (by rw [show dval [48] = 0 from rfl, dd_zero])
      rw [this]; rfl
    · rw [beq_ne h48]
      cases s with
      | nil =>
        have : ([] == dd (dval [])) = false := beq_ne (fun h => dd_ne _ h.symm)
        rw [this]; rfl
      | cons c t =>
        have hne : ((c :: t : List UInt8) == []) = false := rfl
        rw [hne]
        simp only [Bool.not_false, cond_t]
        simp (disch := (first | omega | (simp only [maxN_eq, List.length_append, List.length_cons, List.length_nil, List.length_set, List.length_replicate, List.length_take, List.length_drop]; omega))) only [grd_tt, grd_and, grd_dec, grd_ne, cond_dt, cond_df, cond_et, cond_ef, cond_nt, cond_nf, w64, wu64, wu32, wu8, tm, td, bind_some', same_ee, same_er, same_re, same_rr, cond_t, cond_f, Bool.not_true, Bool.not_false]
        by_cases hc : c = 48
        · subst hc
          have : ((48 :: t : List UInt8) == dd (dval (48 :: t))) = false := beq_ne (fun h => by
            by_cases h0 : dval (48 :: t) = 0
            · rw [h0, dd_zero] at h; exact h48 h
            · obtain ⟨c', s', e, _, hne'⟩ := dd_head h0
              rw [e] at h
              simp only [List.cons.injEq] at h
              exact hne' h.1.symm)
          rw [this]; rfl
        · have : ((c :: t : List UInt8) == dd (dval (c :: t))) = true := beq_of (dd_of hd (by simp) (.inr (by simpa using hc)))
          rw [this]
          have hcn : ((c.toNat : Int) != 48) = true := by
            simp only [bne_iff_ne, ne_eq]
            intro e
            exact hc (UInt8.toNat_inj.1 (by show c.toNat = 48; omega))
          show some (((((c :: t).getD 0 0).toNat : Int) != 48, ()), ()) = _
          rw [show ((c :: t : List UInt8).getD 0 0) = c from rfl, hcn]
  · simp (disch := (first | omega | (simp only [maxN_eq, List.length_append, List.length_cons, List.length_nil, List.length_set, List.length_replicate, List.length_take, List.length_drop]; omega))) only [hr, grd_tt, grd_and, grd_dec, grd_ne, cond_dt, cond_df, cond_et, cond_ef, cond_nt, cond_nf, w64, wu64, wu32, wu8, tm, td, bind_some', same_ee, same_er, same_re, same_rr, cond_t, cond_f, Bool.not_true, Bool.not_false]
    have : (s == dd (dval s)) = false := beq_ne (fun h => hd (h ▸ dd_D _))
    rw [this]
end Go.AM.Num
end
section
set_option linter.unusedSimpArgs false
set_option linter.unusedVariables false
namespace Go.AM.Num

def rep (q : Rat) : Bool × List Int × List Int := (decide (q.num < 0), limbs q.num.natAbs, limbs q.den)
def sgn (neg : Bool) : List UInt8 := if neg then [45] else []
theorem shape {neg : Bool} {s : List UInt8} {q : Rat} (hs : neg = false → ∀ r, s ≠ 45 :: r) (h : sgn neg ++ s = txt q) : neg = decide (q.num < 0) ∧ s = dd q.num.natAbs ++ (if q.den = 1 then [] else 47 :: dd q.den) := by
  unfold txt sgn at h
  cases neg with
  | true =>
    by_cases hq : q.num < 0
    · rw [if_pos hq] at h
      simp only [if_true, List.singleton_append, List.cons_append, List.append_assoc, List.nil_append, List.cons.injEq, true_and] at h
      exact ⟨(decide_eq_true hq).symm, h⟩
    · rw [if_neg hq] at h
      simp only [if_true, List.singleton_append, List.nil_append] at h
      exact absurd h.symm (dd_not45 _ _ _)
  | false =>
    by_cases hq : q.num < 0
    · rw [if_pos hq] at h
      simp only [Bool.false_eq_true, if_false, List.nil_append, List.cons_append, List.append_assoc] at h
      exact absurd h (hs rfl _)
    · rw [if_neg hq] at h
      simp only [Bool.false_eq_true, if_false, List.nil_append] at h
      exact ⟨(decide_eq_false hq).symm, h⟩

theorem sign_cut (a : List UInt8) : ∃ neg s, strings_CutPrefix a [45] = some ((s, neg, ()), ()) ∧ a = sgn neg ++ s ∧ (neg = false → ∀ r, s ≠ 45 :: r) := by
  by_cases h : ∃ r, a = 45 :: r
  · obtain ⟨r, rfl⟩ := h
    exact ⟨true, r, cutP_yes r 45, rfl, fun h => by cases h⟩
  · have h' : ∀ r, a ≠ 45 :: r := fun r e => h ⟨r, e⟩
    exact ⟨false, a, cutP_no h', rfl, fun _ => h'⟩
theorem mk_coprime (neg : Bool) (m d : Nat) (hd : d ≠ 0) (hg : Nat.gcd m d = 1) : (mkRat (sg neg m) d).num = sg neg m ∧ (mkRat (sg neg m) d).den = d := by
  rw [Rat.num_mkRat, Rat.den_mkRat, if_neg hd, if_neg hd, sg_natAbs, Nat.gcd_comm d m, hg]
  simp
theorem sgn_tx {neg : Bool} {m d : Nat} (h : neg = true → m ≠ 0) : sgn neg ++ (dd m ++ (if d = 1 then [] else 47 :: dd d)) = tx neg m d := by
  unfold sgn tx
  cases neg with
  | true => simp [h rfl]
  | false => simp
theorem rep_coprime {neg : Bool} {m d : Nat} (hd : d ≠ 0) (hg : Nat.gcd m d = 1) (h : neg = true → m ≠ 0) : rep (mkRat (sg neg m) d) = (neg, limbs m, limbs d) := by
  obtain ⟨h1, h2⟩ := mk_coprime neg m d hd hg
  unfold rep
  rw [h1, h2, sg_natAbs]
  congr 1
  cases neg with
  | true => exact decide_eq_true ((sg_neg_iff _ _).2 ⟨rfl, h rfl⟩)
  | false => exact decide_eq_false (fun e => by simpa using ((sg_neg_iff _ _).1 e).1)
theorem read_spec (a : List UInt8) (hl : a.length ≤ 10000000) :
    ∃ r ok, n_read a = some ((r, ok, ()), ()) ∧ ((ok = true ∧ ∃ q, a = txt q ∧ r = rep q) ∨ (ok = false ∧ ∀ q, a ≠ txt q)) := by
  obtain ⟨neg, s, hcp, ha, hs⟩ := sign_cut a
  have hsl : s.length ≤ 10000000 := by rw [ha, List.length_append] at hl; omega
  have shp : ∀ q, a = txt q → neg = decide (q.num < 0) ∧ s = dd q.num.natAbs ++ (if q.den = 1 then [] else 47 :: dd q.den) := fun q h => shape hs (ha ▸ h)
  have o : ∀ n, n_nat_one (limbs n) = some ((decide (n = 1), ()), ()) := one_eq
  rcases split_at 47 s with ⟨x, y, rfl, hx⟩ | hx
  · have hxl : x.length ≤ 10000000 := by rw [List.length_append] at hsl; omega
    have hyl : y.length ≤ 10000000 := by rw [List.length_append, List.length_cons] at hsl; omega
    have hcut := cut_yes (y := y) hx (by omega)
    have shp' : ∀ q, a = txt q → neg = decide (q.num < 0) ∧ q.den ≠ 1 ∧ x = dd q.num.natAbs ∧ y = dd q.den := by
      intro q h
      obtain ⟨h1, h2⟩ := shp q h
      by_cases hd : q.den = 1
      · rw [if_pos hd, List.append_nil] at h2
        exact absurd (show (47 : UInt8) ∈ dd q.num.natAbs by rw [← h2]; simp) not_47
      · rw [if_neg hd] at h2
        obtain ⟨e1, e2⟩ := append_47 hx not_47 h2
        exact ⟨h1, hd, e1, e2⟩
    by_cases hnx : x = dd (dval x)
    · have hox := beq_of hnx
      by_cases h0 : x = [48]
      · refine ⟨(false, [], []), false, ?_, .inr ⟨rfl, fun q h => ?_⟩⟩
        · unfold n_read
          simp (disch := (first | omega | (simp only [maxN_eq, List.length_append, List.length_cons, List.length_nil, List.length_set, List.length_replicate, List.length_take, List.length_drop]; omega))) only [hcp, hcut, numeral_eq x (by omega), hox, beq_of h0, grd_tt, grd_and, grd_dec, grd_ne, cond_dt, cond_df, cond_et, cond_ef, cond_nt, cond_nf, w64, wu64, wu32, wu8, tm, td, bind_some', same_ee, same_er, same_re, same_rr, cond_t, cond_f, Bool.not_true, Bool.not_false]
          cases neg <;> rfl
        · obtain ⟨_, h2, h3, _⟩ := shp' q h
          have hq0 : q.num.natAbs = 0 := dd_inj (by rw [← h3, h0, dd_zero])
          have : Nat.gcd q.num.natAbs q.den = 1 := q.reduced
          rw [hq0, Nat.gcd_zero_left] at this
          exact h2 this
      · have hno := natOf_eq (s := x) (hnx ▸ dd_D _) (by omega)
        have hm0 : dval x ≠ 0 := fun e => h0 (by rw [hnx, e, dd_zero])
        by_cases hny : y = dd (dval y)
        · by_cases hy0 : y = [48]
          · refine ⟨(false, [], []), false, ?_, .inr ⟨rfl, fun q h => ?_⟩⟩
            · unfold n_read
              simp (disch := (first | omega | (simp only [maxN_eq, List.length_append, List.length_cons, List.length_nil, List.length_set, List.length_replicate, List.length_take, List.length_drop]; omega))) only [hcp, hcut, numeral_eq x (by omega), hox, beq_ne h0, hno, numeral_eq y (by omega), beq_of hny, beq_of hy0, grd_tt, grd_and, grd_dec, grd_ne, cond_dt, cond_df, cond_et, cond_ef, cond_nt, cond_nf, w64, wu64, wu32, wu8, tm, td, bind_some', same_ee, same_er, same_re, same_rr, cond_t, cond_f, Bool.not_true, Bool.not_false]
            · obtain ⟨_, h2, h3, h4⟩ := shp' q h
              exact q.den_nz (dd_inj (by rw [← h4, hy0, dd_zero]))
          · by_cases hy1 : y = [49]
            · refine ⟨(false, [], []), false, ?_, .inr ⟨rfl, fun q h => ?_⟩⟩
              · unfold n_read
                simp (disch := (first | omega | (simp only [maxN_eq, List.length_append, List.length_cons, List.length_nil, List.length_set, List.length_replicate, List.length_take, List.length_drop]; omega))) only [hcp, hcut, numeral_eq x (by omega), hox, beq_ne h0, hno, numeral_eq y (by omega), beq_of hny, beq_ne hy0, beq_of hy1, grd_tt, grd_and, grd_dec, grd_ne, cond_dt, cond_df, cond_et, cond_ef, cond_nt, cond_nf, w64, wu64, wu32, wu8, tm, td, bind_some', same_ee, same_er, same_re, same_rr, cond_t, cond_f, Bool.not_true, Bool.not_false]
              · obtain ⟨_, h2, h3, h4⟩ := shp' q h
                exact h2 (dd_inj (by rw [← h4, hy1, dd_one]))
            · have hno2 := natOf_eq (s := y) (hny ▸ dd_D _) (by omega)
              have hd0 : dval y ≠ 0 := fun e => hy0 (by rw [hny, e, dd_zero])
              have hd1 : dval y ≠ 1 := fun e => hy1 (by rw [hny, e, dd_one])
              have hg := gcd_eq (dval x) (dval y) (Nat.le_trans (limbs_le_dd _) (by rw [← hnx]; omega)) (Nat.le_trans (limbs_le_dd _) (by rw [← hny]; omega))
              refine ⟨(neg, limbs (dval x), limbs (dval y)), decide (Nat.gcd (dval x) (dval y) = 1), ?_, ?_⟩
              · unfold n_read
                simp (disch := (first | omega | (simp only [maxN_eq, List.length_append, List.length_cons, List.length_nil, List.length_set, List.length_replicate, List.length_take, List.length_drop]; omega))) only [hcp, hcut, numeral_eq x (by omega), hox, beq_ne h0, hno, numeral_eq y (by omega), beq_of hny, beq_ne hy0, beq_ne hy1, hno2, hg, o, grd_tt, grd_and, grd_dec, grd_ne, cond_dt, cond_df, cond_et, cond_ef, cond_nt, cond_nf, w64, wu64, wu32, wu8, tm, td, bind_some', same_ee, same_er, same_re, same_rr, cond_t, cond_f, Bool.not_true, Bool.not_false]
              · by_cases hg1 : Nat.gcd (dval x) (dval y) = 1
                · refine .inl ⟨decide_eq_true hg1, mkRat (sg neg (dval x)) (dval y), ?_, (rep_coprime hd0 hg1 (fun _ => hm0)).symm⟩
                  rw [← tx_coprime neg _ _ hd0 hg1, ← sgn_tx (fun _ => hm0), if_neg hd1, ← hnx, ← hny]
                  exact ha
                · refine .inr ⟨decide_eq_false hg1, fun q h => ?_⟩
                  obtain ⟨_, h2, h3, h4⟩ := shp' q h
                  rw [h3, h4, dval_dd, dval_dd] at hg1
                  exact hg1 q.reduced
        · refine ⟨(false, [], []), false, ?_, .inr ⟨rfl, fun q h => ?_⟩⟩
          · unfold n_read
            simp (disch := (first | omega | (simp only [maxN_eq, List.length_append, List.length_cons, List.length_nil, List.length_set, List.length_replicate, List.length_take, List.length_drop]; omega))) only [hcp, hcut, numeral_eq x (by omega), hox, beq_ne h0, hno, numeral_eq y (by omega), beq_ne hny, grd_tt, grd_and, grd_dec, grd_ne, cond_dt, cond_df, cond_et, cond_ef, cond_nt, cond_nf, w64, wu64, wu32, wu8, tm, td, bind_some', same_ee, same_er, same_re, same_rr, cond_t, cond_f, Bool.not_true, Bool.not_false]
          · obtain ⟨_, h2, h3, h4⟩ := shp' q h
            exact hny (by rw [h4, dval_dd])
    · refine ⟨(false, [], []), false, ?_, .inr ⟨rfl, fun q h => ?_⟩⟩
      · unfold n_read
        simp (disch := (first | omega | (simp only [maxN_eq, List.length_append, List.length_cons, List.length_nil, List.length_set, List.length_replicate, List.length_take, List.length_drop]; omega))) only [hcp, hcut, numeral_eq x (by omega), beq_ne hnx, grd_tt, grd_and, grd_dec, grd_ne, cond_dt, cond_df, cond_et, cond_ef, cond_nt, cond_nf, w64, wu64, wu32, wu8, tm, td, bind_some', same_ee, same_er, same_re, same_rr, cond_t, cond_f, Bool.not_true, Bool.not_false]
      · obtain ⟨_, h2, h3, h4⟩ := shp' q h
        exact hnx (by rw [h3, dval_dd])
  · have hcut := cut_no hx (by omega)
    have shp' : ∀ q, a = txt q → neg = decide (q.num < 0) ∧ q.den = 1 ∧ s = dd q.num.natAbs := by
      intro q h
      obtain ⟨h1, h2⟩ := shp q h
      by_cases hd : q.den = 1
      · rw [if_pos hd, List.append_nil] at h2
        exact ⟨h1, hd, h2⟩
      · rw [if_neg hd] at h2
        exact absurd (by rw [h2]; simp) hx
    by_cases hnx : s = dd (dval s)
    · have hox := beq_of hnx
      have hno := natOf_eq (s := s) (hnx ▸ dd_D _) (by omega)
      have fin : (neg = true → dval s ≠ 0) → a = txt (mkRat (sg neg (dval s)) 1) ∧ (neg, limbs (dval s), ([1] : List Int)) = rep (mkRat (sg neg (dval s)) 1) := by
        intro h
        constructor
        · rw [← tx_coprime neg _ _ (by decide) (Nat.gcd_one_right _), ← sgn_tx h]
          simp only [if_true, List.append_nil]
          rw [← hnx]; exact ha
        · rw [rep_coprime (by decide) (Nat.gcd_one_right _) h, limbs_one]
      by_cases h0 : s = [48]
      · cases hneg : neg with
        | true =>
          subst hneg
          refine ⟨(false, [], []), false, ?_, .inr ⟨rfl, fun q h => ?_⟩⟩
          · unfold n_read
            simp (disch := (first | omega | (simp only [maxN_eq, List.length_append, List.length_cons, List.length_nil, List.length_set, List.length_replicate, List.length_take, List.length_drop]; omega))) only [hcp, hcut, numeral_eq s (by omega), hox, beq_of h0, grd_tt, grd_and, grd_dec, grd_ne, cond_dt, cond_df, cond_et, cond_ef, cond_nt, cond_nf, w64, wu64, wu32, wu8, tm, td, bind_some', same_ee, same_er, same_re, same_rr, cond_t, cond_f, Bool.not_true, Bool.not_false]
          · obtain ⟨h1, h2, h3⟩ := shp' q h
            have hq0 : q.num.natAbs = 0 := dd_inj (by rw [← h3, h0, dd_zero])
            have := of_decide_eq_true h1.symm
            omega
        | false =>
          subst hneg
          obtain ⟨f1, f2⟩ := fin (fun h => by cases h)
          refine ⟨_, true, ?_, .inl ⟨rfl, _, f1, f2⟩⟩
          unfold n_read
          simp (disch := (first | omega | (simp only [maxN_eq, List.length_append, List.length_cons, List.length_nil, List.length_set, List.length_replicate, List.length_take, List.length_drop]; omega))) only [hcp, hcut, numeral_eq s (by omega), hox, beq_of h0, hno, grd_tt, grd_and, grd_dec, grd_ne, cond_dt, cond_df, cond_et, cond_ef, cond_nt, cond_nf, w64, wu64, wu32, wu8, tm, td, bind_some', same_ee, same_er, same_re, same_rr, cond_t, cond_f, Bool.not_true, Bool.not_false]
      · have hm0 : dval s ≠ 0 := fun e => h0 (by rw [hnx, e, dd_zero])
        obtain ⟨f1, f2⟩ := fin (fun _ => hm0)
        refine ⟨_, true, ?_, .inl ⟨rfl, _, f1, f2⟩⟩
        unfold n_read
        simp (disch := (first | omega | (simp only [maxN_eq, List.length_append, List.length_cons, List.length_nil, List.length_set, List.length_replicate, List.length_take, List.length_drop]; omega))) only [hcp, hcut, numeral_eq s (by omega), hox, beq_ne h0, hno, grd_tt, grd_and, grd_dec, grd_ne, cond_dt, cond_df, cond_et, cond_ef, cond_nt, cond_nf, w64, wu64, wu32, wu8, tm, td, bind_some', same_ee, same_er, same_re, same_rr, cond_t, cond_f, Bool.not_true, Bool.not_false]
    · refine ⟨(false, [], []), false, ?_, .inr ⟨rfl, fun q h => ?_⟩⟩
      · unfold n_read
        simp (disch := (first | omega | (simp only [maxN_eq, List.length_append, List.length_cons, List.length_nil, List.length_set, List.length_replicate, List.length_take, List.length_drop]; omega))) only [hcp, hcut, numeral_eq s (by omega), beq_ne hnx, grd_tt, grd_and, grd_dec, grd_ne, cond_dt, cond_df, cond_et, cond_ef, cond_nt, cond_nf, w64, wu64, wu32, wu8, tm, td, bind_some', same_ee, same_er, same_re, same_rr, cond_t, cond_f, Bool.not_true, Bool.not_false]
      · obtain ⟨_, h2, h3⟩ := shp' q h
        exact hnx (by rw [h3, dval_dd])
end Go.AM.Num
end
section
set_option linter.unusedSimpArgs false
set_option linter.unusedVariables false
namespace Go.AM.Num
theorem parseUintM_D (M : Nat) (hM : 1000000000000000000 ≤ M) (s : List UInt8) (acc : Nat) (hd : AllD s) (h : acc * 10 ^ s.length + dval s < 1000000000000000000) : Lib.parseUintM M acc s = .ok (acc * 10 ^ s.length + dval s) := by
  induction s generalizing acc with
  | nil => simp [Lib.parseUintM, dval]
  | cons c s ih =>
    have hc := hd c (by simp)
    have hdc : c.toNat - 48 = dig c := rfl
    rw [dval_cons, List.length_cons, Nat.pow_succ] at h ⊢
    have hp : 1 ≤ 10 ^ s.length := Nat.one_le_pow _ _ (by decide)
    have e : acc * (10 ^ s.length * 10) + (dig c * 10 ^ s.length + dval s) = (acc * 10 + dig c) * 10 ^ s.length + dval s := by grind
    rw [e] at h ⊢
    have h1 : (acc * 10 + dig c) * 1 ≤ (acc * 10 + dig c) * 10 ^ s.length := Nat.mul_le_mul_left _ hp
    unfold Lib.parseUintM
    rw [if_pos ⟨hc.1, hc.2⟩, if_neg (by omega), hdc, if_neg (by omega)]
    exact ih (acc * 10 + dig c) (fun x hx => hd x (by simp [hx])) h
theorem parseInt_dd (n : Nat) (h : n < 1000000000) : strconv_ParseInt (dd n) 10 64 = some (((n : Int), false, ()), ()) := by
  have hl : (dd n).length ≤ 9 := dd_lt_len (by simpa using h) (by decide)
  have hm := parseUintM_D (2 ^ 64 - 1) (by decide) (dd n) 0 (dd_D n) (by rw [dval_dd]; omega)
  rw [dval_dd, Nat.zero_mul, Nat.zero_add] at hm
  unfold strconv_ParseInt
  rw [if_pos ⟨rfl, rfl, by omega⟩]
  have : Lib.parseIntB 64 (dd n) = .ok (n : Int) := by
    cases e : dd n with
    | nil => exact absurd e (dd_ne n)
    | cons c r =>
      have hc := dd_D n c (by rw [e]; simp)
      unfold Lib.parseIntB
      have h1 : ¬ (c.toNat = 43 ∨ c.toNat = 45) := by have := hc.1; omega
      have h2 : ¬ c.toNat = 45 := by have := hc.1; omega
      simp only [if_neg h1]
      unfold Lib.parseUintB
      rw [if_neg (by simp), ← e, hm]
      simp [h2]
      omega
  rw [this]
theorem divisor_eq (m n : Nat) : n_divisor (m : Int) (n : Int) = some ((((Nat.gcd m n : Nat) : Int), ()), ()) := by
  obtain ⟨r, hr, b, rfl⟩ := loopO_ind (step := n_divisor_s1) (Q := fun r => ∃ b, r = (Ex.exit 0, (((Nat.gcd m n : Nat) : Int), b, ())))
    (fun k x => ∃ a b : Nat, x = ((a : Int), (b : Int), ()) ∧ k = b ∧ Nat.gcd a b = Nat.gcd m n) (by
      rintro k x ⟨a, b, rfl, rfl, hg⟩
      by_cases h0 : k = 0
      · subst h0
        refine .inl ⟨(Ex.exit 0, ((a : Int), 0, ())), ?_, by simp, 0, ?_⟩
        · simp (disch := (first | omega | (simp only [maxN_eq, List.length_append, List.length_cons, List.length_nil, List.length_set, List.length_replicate, List.length_take, List.length_drop]; omega))) only [n_divisor_s1, grd_tt, grd_and, grd_dec, grd_ne, cond_dt, cond_df, cond_et, cond_ef, cond_nt, cond_nf, w64, wu64, wu32, wu8, tm, td, bind_some', same_ee, same_er, same_re, same_rr, cond_t, cond_f, Bool.not_true, Bool.not_false]
          rfl
        · rw [← hg, Nat.gcd_zero_right]
      · refine .inr ⟨a % k, _, ?_, Nat.mod_lt _ (by omega), k, a % k, rfl, rfl, ?_⟩
        · simp (disch := (first | omega | (simp only [maxN_eq, List.length_append, List.length_cons, List.length_nil, List.length_set, List.length_replicate, List.length_take, List.length_drop]; omega))) only [n_divisor_s1, grd_tt, grd_and, grd_dec, grd_ne, cond_dt, cond_df, cond_et, cond_ef, cond_nt, cond_nf, w64, wu64, wu32, wu8, tm, td, bind_some', same_ee, same_er, same_re, same_rr, cond_t, cond_f, Bool.not_true, Bool.not_false]
          rw [← Int.natCast_emod]
        · rw [Nat.gcd_comm, ← Nat.gcd_rec, Nat.gcd_comm, hg]) n _ ⟨m, n, rfl, rfl, rfl⟩
  unfold n_divisor
  rw [hr]
  simp (disch := (first | omega | (simp only [maxN_eq, List.length_append, List.length_cons, List.length_nil, List.length_set, List.length_replicate, List.length_take, List.length_drop]; omega))) only [grd_tt, grd_and, grd_dec, grd_ne, cond_dt, cond_df, cond_et, cond_ef, cond_nt, cond_nf, w64, wu64, wu32, wu8, tm, td, bind_some', same_ee, same_er, same_re, same_rr, cond_t, cond_f, Bool.not_true, Bool.not_false]

def IsSmall (a : List UInt8) (r : Int × Int) : Prop := ∃ q, a = txt q ∧ r = (q.num, (q.den : Int)) ∧ q.num.natAbs < 1000000000 ∧ q.den < 1000000000
theorem lt_of_len9 {n : Nat} (h : (dd n).length ≤ 9) : n < 1000000000 := by
  have := dd_len_lt n
  have h2 : 10 ^ (dd n).length ≤ 10 ^ 9 := Nat.pow_le_pow_right (by decide) h
  omega
theorem small_spec (a : List UInt8) (hl : a.length ≤ 10000000) : ∃ r ok, n_smallOf a = some ((r, ok, ()), ()) ∧ (ok = true → IsSmall a r) := by
  obtain ⟨neg, s, hcp, ha, hs⟩ := sign_cut a
  have hsl : s.length ≤ 10000000 := by rw [ha, List.length_append] at hl; omega
  have nope : ∀ (r : Int × Int), n_smallOf a = some ((r, false, ()), ()) → ∃ r ok, n_smallOf a = some ((r, ok, ()), ()) ∧ (ok = true → IsSmall a r) := fun r h => ⟨r, false, h, fun h => by cases h⟩
  rcases split_at 47 s with ⟨x, y, rfl, hx⟩ | hx
  · have hxl : x.length ≤ 10000000 := by rw [List.length_append] at hsl; omega
    have hyl : y.length ≤ 10000000 := by rw [List.length_append, List.length_cons] at hsl; omega
    have hcut := cut_yes (y := y) hx (by omega)
    by_cases h9 : x.length ≤ 9
    · by_cases hy9 : y.length ≤ 9
      · by_cases hnx : x = dd (dval x)
        · have hox := beq_of hnx
          by_cases h0 : x = [48]
          · refine nope (0, 0) ?_
            unfold n_smallOf
            simp (disch := (first | omega | (simp only [maxN_eq, List.length_append, List.length_cons, List.length_nil, List.length_set, List.length_replicate, List.length_take, List.length_drop]; omega))) only [hcp, hcut, numeral_eq x (by omega), hox, beq_of h0, grd_tt, grd_and, grd_dec, grd_ne, cond_dt, cond_df, cond_et, cond_ef, cond_nt, cond_nf, w64, wu64, wu32, wu8, tm, td, bind_some', same_ee, same_er, same_re, same_rr, cond_t, cond_f, Bool.not_true, Bool.not_false]
            cases neg <;> rfl
          · have hm0 : dval x ≠ 0 := fun e => h0 (by rw [hnx, e, dd_zero])
            have hmB : dval x < 1000000000 := lt_of_len9 (by rw [← hnx]; exact h9)
            have hp := parseInt_dd (dval x) hmB
            rw [← hnx] at hp
            by_cases hny : y = dd (dval y)
            · have hdB : dval y < 1000000000 := lt_of_len9 (by rw [← hny]; exact hy9)
              have hpy := parseInt_dd (dval y) hdB
              rw [← hny] at hpy
              by_cases h2 : dval y < 2
              · refine nope (0, 0) ?_
                unfold n_smallOf
                simp (disch := (first | omega | (simp only [maxN_eq, List.length_append, List.length_cons, List.length_nil, List.length_set, List.length_replicate, List.length_take, List.length_drop]; omega))) only [hcp, hcut, numeral_eq x (by omega), hox, beq_ne h0, hp, numeral_eq y (by omega), beq_of hny, hpy, grd_tt, grd_and, grd_dec, grd_ne, cond_dt, cond_df, cond_et, cond_ef, cond_nt, cond_nf, w64, wu64, wu32, wu8, tm, td, bind_some', same_ee, same_er, same_re, same_rr, cond_t, cond_f, Bool.not_true, Bool.not_false]
              · have hdv := divisor_eq (dval x) (dval y)
                by_cases hg : Nat.gcd (dval x) (dval y) = 1
                · have hd0 : dval y ≠ 0 := by omega
                  obtain ⟨e1, e2⟩ := mk_coprime neg (dval x) (dval y) hd0 hg
                  have hsm : IsSmall a (sg neg (dval x), ((dval y : Nat) : Int)) := by
                    refine ⟨mkRat (sg neg (dval x)) (dval y), ?_, by rw [e1, e2], by rw [e1, sg_natAbs]; exact hmB, by rw [e2]; exact hdB⟩
                    rw [← tx_coprime neg _ _ hd0 hg, ← sgn_tx (fun _ => hm0), if_neg (by omega), ← hnx, ← hny]
                    exact ha
                  rw [hg] at hdv
                  cases neg with
                  | true =>
                    refine ⟨_, true, ?_, fun _ => hsm⟩
                    unfold n_smallOf
                    simp (disch := (first | omega | (simp only [maxN_eq, List.length_append, List.length_cons, List.length_nil, List.length_set, List.length_replicate, List.length_take, List.length_drop]; omega))) only [hcp, hcut, numeral_eq x (by omega), hox, beq_ne h0, hp, numeral_eq y (by omega), beq_of hny, hpy, hdv, grd_tt, grd_and, grd_dec, grd_ne, cond_dt, cond_df, cond_et, cond_ef, cond_nt, cond_nf, w64, wu64, wu32, wu8, tm, td, bind_some', same_ee, same_er, same_re, same_rr, cond_t, cond_f, Bool.not_true, Bool.not_false]
                    simp [sg]
                  | false =>
                    refine ⟨_, true, ?_, fun _ => hsm⟩
                    unfold n_smallOf
                    simp (disch := (first | omega | (simp only [maxN_eq, List.length_append, List.length_cons, List.length_nil, List.length_set, List.length_replicate, List.length_take, List.length_drop]; omega))) only [hcp, hcut, numeral_eq x (by omega), hox, beq_ne h0, hp, numeral_eq y (by omega), beq_of hny, hpy, hdv, grd_tt, grd_and, grd_dec, grd_ne, cond_dt, cond_df, cond_et, cond_ef, cond_nt, cond_nf, w64, wu64, wu32, wu8, tm, td, bind_some', same_ee, same_er, same_re, same_rr, cond_t, cond_f, Bool.not_true, Bool.not_false]
                    simp [sg]
                · refine nope (0, 0) ?_
                  unfold n_smallOf
                  simp (disch := (first | omega | (simp only [maxN_eq, List.length_append, List.length_cons, List.length_nil, List.length_set, List.length_replicate, List.length_take, List.length_drop]; omega))) only [hcp, hcut, numeral_eq x (by omega), hox, beq_ne h0, hp, numeral_eq y (by omega), beq_of hny, hpy, hdv, grd_tt, grd_and, grd_dec, grd_ne, cond_dt, cond_df, cond_et, cond_ef, cond_nt, cond_nf, w64, wu64, wu32, wu8, tm, td, bind_some', same_ee, same_er, same_re, same_rr, cond_t, cond_f, Bool.not_true, Bool.not_false]
            · refine nope (0, 0) ?_
              unfold n_smallOf
              simp (disch := (first | omega | (simp only [maxN_eq, List.length_append, List.length_cons, List.length_nil, List.length_set, List.length_replicate, List.length_take, List.length_drop]; omega))) only [hcp, hcut, numeral_eq x (by omega), hox, beq_ne h0, hp, numeral_eq y (by omega), beq_ne hny, grd_tt, grd_and, grd_dec, grd_ne, cond_dt, cond_df, cond_et, cond_ef, cond_nt, cond_nf, w64, wu64, wu32, wu8, tm, td, bind_some', same_ee, same_er, same_re, same_rr, cond_t, cond_f, Bool.not_true, Bool.not_false]
        · refine nope (0, 0) ?_
          unfold n_smallOf
          simp (disch := (first | omega | (simp only [maxN_eq, List.length_append, List.length_cons, List.length_nil, List.length_set, List.length_replicate, List.length_take, List.length_drop]; omega))) only [hcp, hcut, numeral_eq x (by omega), beq_ne hnx, grd_tt, grd_and, grd_dec, grd_ne, cond_dt, cond_df, cond_et, cond_ef, cond_nt, cond_nf, w64, wu64, wu32, wu8, tm, td, bind_some', same_ee, same_er, same_re, same_rr, cond_t, cond_f, Bool.not_true, Bool.not_false]
      · refine nope (0, 0) ?_
        unfold n_smallOf
        simp (disch := (first | omega | (simp only [maxN_eq, List.length_append, List.length_cons, List.length_nil, List.length_set, List.length_replicate, List.length_take, List.length_drop]; omega))) only [hcp, hcut, grd_tt, grd_and, grd_dec, grd_ne, cond_dt, cond_df, cond_et, cond_ef, cond_nt, cond_nf, w64, wu64, wu32, wu8, tm, td, bind_some', same_ee, same_er, same_re, same_rr, cond_t, cond_f, Bool.not_true, Bool.not_false]
    · refine nope (0, 0) ?_
      unfold n_smallOf
      simp (disch := (first | omega | (simp only [maxN_eq, List.length_append, List.length_cons, List.length_nil, List.length_set, List.length_replicate, List.length_take, List.length_drop]; omega))) only [hcp, hcut, grd_tt, grd_and, grd_dec, grd_ne, cond_dt, cond_df, cond_et, cond_ef, cond_nt, cond_nf, w64, wu64, wu32, wu8, tm, td, bind_some', same_ee, same_er, same_re, same_rr, cond_t, cond_f, Bool.not_true, Bool.not_false]
  · have hcut := cut_no hx (by omega)
    have hnil : (([] : List UInt8).length : Int) = 0 := rfl
    by_cases h9 : s.length ≤ 9
    · by_cases hnx : s = dd (dval s)
      · have hox := beq_of hnx
        have hmB : dval s < 1000000000 := lt_of_len9 (by rw [← hnx]; exact h9)
        have hp := parseInt_dd (dval s) hmB
        rw [← hnx] at hp
        have fin : (neg = true → dval s ≠ 0) → IsSmall a (sg neg (dval s), 1) := by
          intro h
          obtain ⟨e1, e2⟩ := mk_coprime neg (dval s) 1 (by decide) (Nat.gcd_one_right _)
          refine ⟨mkRat (sg neg (dval s)) 1, ?_, by rw [e1, e2]; rfl, by rw [e1, sg_natAbs]; exact hmB, by rw [e2]; decide⟩
          rw [← tx_coprime neg _ _ (by decide) (Nat.gcd_one_right _), ← sgn_tx h]
          simp only [if_true, List.append_nil]
          rw [← hnx]; exact ha
        by_cases h0 : s = [48]
        · cases neg with
          | true =>
            refine nope (0, 0) ?_
            unfold n_smallOf
            simp (disch := (first | omega | (simp only [maxN_eq, List.length_append, List.length_cons, List.length_nil, List.length_set, List.length_replicate, List.length_take, List.length_drop]; omega))) only [hcp, hcut, hnil, numeral_eq s (by omega), hox, beq_of h0, grd_tt, grd_and, grd_dec, grd_ne, cond_dt, cond_df, cond_et, cond_ef, cond_nt, cond_nf, w64, wu64, wu32, wu8, tm, td, bind_some', same_ee, same_er, same_re, same_rr, cond_t, cond_f, Bool.not_true, Bool.not_false]
          | false =>
            refine ⟨_, true, ?_, fun _ => fin (fun h => by cases h)⟩
            unfold n_smallOf
            simp (disch := (first | omega | (simp only [maxN_eq, List.length_append, List.length_cons, List.length_nil, List.length_set, List.length_replicate, List.length_take, List.length_drop]; omega))) only [hcp, hcut, hnil, numeral_eq s (by omega), hox, beq_of h0, hp, grd_tt, grd_and, grd_dec, grd_ne, cond_dt, cond_df, cond_et, cond_ef, cond_nt, cond_nf, w64, wu64, wu32, wu8, tm, td, bind_some', same_ee, same_er, same_re, same_rr, cond_t, cond_f, Bool.not_true, Bool.not_false]
            simp [sg]
        · have hm0 : dval s ≠ 0 := fun e => h0 (by rw [hnx, e, dd_zero])
          cases neg with
          | true =>
            refine ⟨_, true, ?_, fun _ => fin (fun _ => hm0)⟩
            unfold n_smallOf
            simp (disch := (first | omega | (simp only [maxN_eq, List.length_append, List.length_cons, List.length_nil, List.length_set, List.length_replicate, List.length_take, List.length_drop]; omega))) only [hcp, hcut, hnil, numeral_eq s (by omega), hox, beq_ne h0, hp, grd_tt, grd_and, grd_dec, grd_ne, cond_dt, cond_df, cond_et, cond_ef, cond_nt, cond_nf, w64, wu64, wu32, wu8, tm, td, bind_some', same_ee, same_er, same_re, same_rr, cond_t, cond_f, Bool.not_true, Bool.not_false]
            simp [sg]
          | false =>
            refine ⟨_, true, ?_, fun _ => fin (fun _ => hm0)⟩
            unfold n_smallOf
            simp (disch := (first | omega | (simp only [maxN_eq, List.length_append, List.length_cons, List.length_nil, List.length_set, List.length_replicate, List.length_take, List.length_drop]; omega))) only [hcp, hcut, hnil, numeral_eq s (by omega), hox, beq_ne h0, hp, grd_tt, grd_and, grd_dec, grd_ne, cond_dt, cond_df, cond_et, cond_ef, cond_nt, cond_nf, w64, wu64, wu32, wu8, tm, td, bind_some', same_ee, same_er, same_re, same_rr, cond_t, cond_f, Bool.not_true, Bool.not_false]
            simp [sg]
      · refine nope (0, 0) ?_
        unfold n_smallOf
        simp (disch := (first | omega | (simp only [maxN_eq, List.length_append, List.length_cons, List.length_nil, List.length_set, List.length_replicate, List.length_take, List.length_drop]; omega))) only [hcp, hcut, hnil, numeral_eq s (by omega), beq_ne hnx, grd_tt, grd_and, grd_dec, grd_ne, cond_dt, cond_df, cond_et, cond_ef, cond_nt, cond_nf, w64, wu64, wu32, wu8, tm, td, bind_some', same_ee, same_er, same_re, same_rr, cond_t, cond_f, Bool.not_true, Bool.not_false]
    · refine nope (0, 0) ?_
      unfold n_smallOf
      simp (disch := (first | omega | (simp only [maxN_eq, List.length_append, List.length_cons, List.length_nil, List.length_set, List.length_replicate, List.length_take, List.length_drop]; omega))) only [hcp, hcut, grd_tt, grd_and, grd_dec, grd_ne, cond_dt, cond_df, cond_et, cond_ef, cond_nt, cond_nf, w64, wu64, wu32, wu8, tm, td, bind_some', same_ee, same_er, same_re, same_rr, cond_t, cond_f, Bool.not_true, Bool.not_false]

theorem itoa_sg (neg : Bool) (m : Nat) : Lib.itoa (sg neg m) = (if neg = true ∧ m ≠ 0 then [45] else []) ++ dd m := by
  unfold Lib.itoa
  by_cases h : sg neg m < 0
  · rw [if_pos h, if_pos ((sg_neg_iff _ _).1 h), sg_natAbs]; rfl
  · rw [if_neg h, if_neg (fun e => h ((sg_neg_iff _ _).2 e))]
    have : (sg neg m).toNat = m := by have := sg_natAbs neg m; omega
    rw [this]; rfl
theorem in64_of_lt {n : Int} (h : n.natAbs < 9000000000000000000) : in64 n := ⟨by omega, by omega⟩
theorem fmt_eq (neg : Bool) (m : Nat) (h : m < 9000000000000000000) : strconv_FormatInt (sg neg m) 10 = some (((if neg = true ∧ m ≠ 0 then [45] else []) ++ dd m, ()), ()) := by
  unfold strconv_FormatInt
  rw [if_pos ⟨in64_of_lt (by rw [sg_natAbs]; exact h), rfl⟩, itoa_sg]
theorem fmt_nat (m : Nat) (h : m < 9000000000000000000) : strconv_FormatInt (m : Int) 10 = some ((dd m, ()), ()) := by
  have := fmt_eq false m h
  simpa [sg] using this
theorem sg_tdiv (neg : Bool) (m g : Nat) : (sg neg m).tdiv (g : Int) = sg neg (m / g) := by
  cases neg with
  | false => simp only [sg, Bool.false_eq_true, if_false]; rw [Int.tdiv_eq_ediv_of_nonneg (by omega), Int.natCast_ediv]
  | true => simp only [sg, if_true]; rw [Int.neg_tdiv, Int.tdiv_eq_ediv_of_nonneg (by omega), Int.natCast_ediv]
theorem maxA_abs (n : Int) : maxA n (0 - n) = (n.natAbs : Int) := by rw [maxA_def]; split <;> omega
theorem sg_bound (neg : Bool) (m : Nat) : -(m : Int) ≤ sg neg m ∧ sg neg m ≤ m := by cases neg <;> simp [sg] <;> omega
theorem sg_of (n : Int) : n = sg (decide (n < 0)) n.natAbs := by
  unfold sg
  by_cases h : n < 0
  · rw [decide_eq_true h]; simp; omega
  · rw [decide_eq_false h]; simp; omega
theorem maxS_eq : maxS = 1152921504606846976 := rfl
theorem sg_len (p : Prop) [Decidable p] : (if p then [(45 : UInt8)] else []).length ≤ 1 := by split <;> simp
theorem frac_pos (neg : Bool) (m d : Nat) (hd : d ≠ 0) (hm : m < 9000000000000000000) (hdB : d < 9000000000000000000) :
    n_fraction (sg neg m) (d : Int) = some ((txt (mkRat (sg neg m) d), ()), ()) := by
  have hg0 : Nat.gcd m d ≠ 0 := fun e => hd (Nat.gcd_eq_zero_iff.1 e).2
  have hdv := divisor_eq m d
  obtain ⟨b1, b2⟩ := sg_bound neg m
  have hmx : maxA (sg neg m) (0 - sg neg m) = (m : Int) := by rw [maxA_abs, sg_natAbs]
  have hn1 := Nat.div_le_self m (Nat.gcd m d)
  have hn2 := Nat.div_le_self d (Nat.gcd m d)
  obtain ⟨c1, c2⟩ := sg_bound neg (m / Nat.gcd m d)
  have f1 := fmt_eq neg (m / Nat.gcd m d) (by omega)
  have f2 := fmt_nat (d / Nat.gcd m d) (by omega)
  have hdt : ((d : Int)).tdiv ((Nat.gcd m d : Nat) : Int) = ((d / Nat.gcd m d : Nat) : Int) := by rw [Int.tdiv_eq_ediv_of_nonneg (by omega), Int.natCast_ediv]
  have hdt2 : (d : Int) / ((Nat.gcd m d : Nat) : Int) = ((d / Nat.gcd m d : Nat) : Int) := (Int.natCast_ediv _ _).symm
  have hl1 : (dd (m / Nat.gcd m d)).length ≤ 19 := dd_lt_len (by omega) (by decide)
  have hl2 : (dd (d / Nat.gcd m d)).length ≤ 19 := dd_lt_len (by omega) (by decide)
  rw [← tx_lowest neg m d hd]
  unfold tx
  have hnum := sg_tdiv neg m (Nat.gcd m d)
  obtain ⟨pre, hpre⟩ : ∃ pre : List UInt8, pre = (if neg = true ∧ m / Nat.gcd m d ≠ 0 then [45] else []) := ⟨_, rfl⟩
  have hprel : pre.length ≤ 1 := by rw [hpre]; exact sg_len _
  rw [← hpre] at f1 ⊢
  unfold n_fraction
  by_cases h1 : d / Nat.gcd m d = 1
  · rw [if_pos h1]
    rw [h1] at hdt hdt2
    simp (disch := (first | omega | (simp only [maxN_eq, List.length_append, List.length_cons, List.length_nil, List.length_set, List.length_replicate, List.length_take, List.length_drop]; omega))) only [hmx, hdv, hnum, f1, hdt, hdt2, grd_tt, grd_and, grd_dec, grd_ne, cond_dt, cond_df, cond_et, cond_ef, cond_nt, cond_nf, w64, wu64, wu32, wu8, tm, td, bind_some', same_ee, same_er, same_re, same_rr, cond_t, cond_f, Bool.not_true, Bool.not_false]
    simp
  · have hq0 : 0 < d / Nat.gcd m d := Nat.div_pos (Nat.le_of_dvd (by omega) (Nat.gcd_dvd_right m d)) (by omega)
    rw [if_neg h1]
    have g1 : ([47] : List UInt8).length + (dd (d / Nat.gcd m d)).length ≤ maxS := by rw [maxS_eq]; simp; omega
    have g2 : (pre ++ dd (m / Nat.gcd m d)).length + (([47] : List UInt8) ++ dd (d / Nat.gcd m d)).length ≤ maxS := by rw [maxS_eq]; simp; omega
    simp (disch := (first | omega | (simp only [maxN_eq, List.length_append, List.length_cons, List.length_nil, List.length_set, List.length_replicate, List.length_take, List.length_drop]; omega))) only [hmx, hdv, hnum, f1, hdt, hdt2, f2, grd_dec g1, grd_dec g2, grd_tt, grd_and, grd_dec, grd_ne, cond_dt, cond_df, cond_et, cond_ef, cond_nt, cond_nf, w64, wu64, wu32, wu8, tm, td, bind_some', same_ee, same_er, same_re, same_rr, cond_t, cond_f, Bool.not_true, Bool.not_false]
    simp
theorem frac_eq (n d : Int) (hd : d ≠ 0) (hn : n.natAbs < 9000000000000000000) (hdB : d.natAbs < 9000000000000000000) :
    n_fraction n d = some ((txt (Rat.divInt n d), ()), ()) := by
  by_cases h : d < 0
  · have h1 := frac_pos (decide (-n < 0)) n.natAbs d.natAbs (by omega) hn hdB
    have e1 : sg (decide (-n < 0)) n.natAbs = -n := by have := sg_of (-n); rw [Int.natAbs_neg] at this; exact this.symm
    rw [e1] at h1
    have e2 : (d.natAbs : Int) = -d := by omega
    rw [e2] at h1
    have e3 : Rat.divInt n d = mkRat (-n) d.natAbs := by rw [← Rat.neg_divInt_neg, ← e2, Rat.divInt_ofNat]
    rw [e3, ← h1]
    have w1 : IntKind.i64.wrap (0 - n) = 0 - n := w64 (by omega)
    have w2 : IntKind.i64.wrap (0 - d) = 0 - d := w64 (by omega)
    unfold n_fraction
    rw [w1, w2, show (0 : Int) - n = -n by omega, show (0 : Int) - d = -d by omega, cond_dt h, cond_df (by omega)]
  · have h1 := frac_pos (decide (n < 0)) n.natAbs d.natAbs (by omega) hn hdB
    rw [← sg_of n] at h1
    have e2 : (d.natAbs : Int) = d := by omega
    rw [← Rat.divInt_ofNat, e2] at h1
    exact h1
end Go.AM.Num
end
section
set_option linter.unusedSimpArgs false
set_option linter.unusedVariables false
namespace Go.AM.Num
theorem rat_text_eq (neg : Bool) (m d : Nat) (hm : (dd m).length ≤ 100000000) (hd : (dd d).length ≤ 100000000) : n_rat_text (neg, limbs m, limbs d) = some ((tx neg m d, ()), ()) := by
  have tm' := text_eq m (by have := limbs_le_dd m; omega)
  have td' := text_eq d (by have := limbs_le_dd d; omega)
  have o := one_eq d
  have h1 : ([45] : List UInt8).length + (dd m).length ≤ maxS := by rw [maxS_eq]; simp; omega
  have h2 : ([47] : List UInt8).length + (dd d).length ≤ maxS := by rw [maxS_eq]; simp; omega
  have h3 : (([45] : List UInt8) ++ dd m).length + (([47] : List UInt8) ++ dd d).length ≤ maxS := by rw [maxS_eq]; simp; omega
  have h4 : (dd m).length + (([47] : List UInt8) ++ dd d).length ≤ maxS := by rw [maxS_eq]; simp; omega
  have hl0 : ¬ ((limbs 0).length : Int) > 0 := by rw [limbs_zero]; simp
  unfold n_rat_text tx
  cases neg with
  | true =>
    by_cases hm0 : m = 0
    · subst hm0
      by_cases h : d = 1
      · subst h
        simp (disch := (first | omega | (simp only [maxN_eq, List.length_append, List.length_cons, List.length_nil, List.length_set, List.length_replicate, List.length_take, List.length_drop]; omega))) only [tm', td', one_eq 1, cond_df hl0, decide_true, grd_tt, grd_and, grd_dec, grd_ne, cond_dt, cond_df, cond_et, cond_ef, cond_nt, cond_nf, w64, wu64, wu32, wu8, tm, td, bind_some', same_ee, same_er, same_re, same_rr, cond_t, cond_f, Bool.not_true, Bool.not_false]
        simp
      · simp (disch := (first | omega | (simp only [maxN_eq, List.length_append, List.length_cons, List.length_nil, List.length_set, List.length_replicate, List.length_take, List.length_drop]; omega))) only [tm', td', o, cond_df hl0, decide_eq_false h, grd_dec h2, grd_dec h4, grd_tt, grd_and, grd_dec, grd_ne, cond_dt, cond_df, cond_et, cond_ef, cond_nt, cond_nf, w64, wu64, wu32, wu8, tm, td, bind_some', same_ee, same_er, same_re, same_rr, cond_t, cond_f, Bool.not_true, Bool.not_false]
        simp [h]
    · have hl : ((limbs m).length : Int) > 0 := by
        have : (limbs m).length ≠ 0 := fun e => hm0 (limbs_nil.1 (List.eq_nil_of_length_eq_zero e))
        omega
      by_cases h : d = 1
      · subst h
        simp (disch := (first | omega | (simp only [maxN_eq, List.length_append, List.length_cons, List.length_nil, List.length_set, List.length_replicate, List.length_take, List.length_drop]; omega))) only [tm', td', one_eq 1, cond_dt hl, decide_true, grd_dec h1, grd_tt, grd_and, grd_dec, grd_ne, cond_dt, cond_df, cond_et, cond_ef, cond_nt, cond_nf, w64, wu64, wu32, wu8, tm, td, bind_some', same_ee, same_er, same_re, same_rr, cond_t, cond_f, Bool.not_true, Bool.not_false]
        simp [hm0]
      · simp (disch := (first | omega | (simp only [maxN_eq, List.length_append, List.length_cons, List.length_nil, List.length_set, List.length_replicate, List.length_take, List.length_drop]; omega))) only [tm', td', o, cond_dt hl, decide_eq_false h, grd_dec h1, grd_dec h2, grd_dec h3, grd_tt, grd_and, grd_dec, grd_ne, cond_dt, cond_df, cond_et, cond_ef, cond_nt, cond_nf, w64, wu64, wu32, wu8, tm, td, bind_some', same_ee, same_er, same_re, same_rr, cond_t, cond_f, Bool.not_true, Bool.not_false]
        simp [h, hm0]
  | false =>
    by_cases h : d = 1
    · subst h
      simp (disch := (first | omega | (simp only [maxN_eq, List.length_append, List.length_cons, List.length_nil, List.length_set, List.length_replicate, List.length_take, List.length_drop]; omega))) only [tm', td', one_eq 1, decide_true, grd_tt, grd_and, grd_dec, grd_ne, cond_dt, cond_df, cond_et, cond_ef, cond_nt, cond_nf, w64, wu64, wu32, wu8, tm, td, bind_some', same_ee, same_er, same_re, same_rr, cond_t, cond_f, Bool.not_true, Bool.not_false]
      simp
    · simp (disch := (first | omega | (simp only [maxN_eq, List.length_append, List.length_cons, List.length_nil, List.length_set, List.length_replicate, List.length_take, List.length_drop]; omega))) only [tm', td', o, decide_eq_false h, grd_dec h2, grd_dec h4, grd_tt, grd_and, grd_dec, grd_ne, cond_dt, cond_df, cond_et, cond_ef, cond_nt, cond_nf, w64, wu64, wu32, wu8, tm, td, bind_some', same_ee, same_er, same_re, same_rr, cond_t, cond_f, Bool.not_true, Bool.not_false]
      simp [h]

def Is (r : Bool × List Int × List Int) (q : Rat) : Prop := ∃ neg m d, r = (neg, limbs m, limbs d) ∧ tx neg m d = txt q ∧ (dd m).length ≤ 100000000 ∧ (dd d).length ≤ 100000000
theorem Is.text {r : Bool × List Int × List Int} {q : Rat} (h : Is r q) : n_rat_text (r.1, r.2.1, r.2.2) = some ((txt q, ()), ()) := by
  obtain ⟨neg, m, d, rfl, h1, h2, h3⟩ := h
  rw [rat_text_eq neg m d h2 h3, h1]
theorem lowest_is (neg : Bool) (m d : Nat) (hd : d ≠ 0) (hm : (dd m).length ≤ 100000000) (hdl : (dd d).length ≤ 100000000) :
    ∃ r, n_lowest neg (limbs m) (limbs d) = some ((r, ()), ()) ∧ Is r (mkRat (sg neg m) d) :=
  ⟨_, lowest_eq neg m d hd (Nat.le_trans (limbs_le_dd _) hm) (Nat.le_trans (limbs_le_dd _) hdl), neg, _, _, rfl, tx_lowest neg m d hd,
    Nat.le_trans (dd_len_mono (Nat.div_le_self _ _)) hm, Nat.le_trans (dd_len_mono (Nat.div_le_self _ _)) hdl⟩
theorem num_len (q : Rat) : (dd q.num.natAbs).length ≤ D q := by unfold D; omega
theorem den_len (q : Rat) : (dd q.den).length ≤ D q := by unfold D; omega
theorem add_form (p q : Rat) : p + q = mkRat (sg (decide (p.num < 0)) (p.num.natAbs * q.den) + sg (decide (q.num < 0)) (q.num.natAbs * p.den)) (p.den * q.den) := by
  rw [Rat.add_def']
  congr 1
  have h1 := sg_mul (decide (p.num < 0)) false p.num.natAbs q.den
  have h2 := sg_mul (decide (q.num < 0)) false q.num.natAbs p.den
  rw [sg_self] at h1 h2
  simp only [Bool.bne_false] at h1 h2
  rw [← h1, ← h2]; rfl
theorem radd (p q : Rat) (h : D p + D q ≤ 10000000) : ∃ r, n_rat_add (rep p) (rep q) = some ((r, ()), ()) ∧ Is r (p + q) := by
  have a1 := num_len p
  have a2 := den_len p
  have a3 := num_len q
  have a4 := den_len q
  have b1 := dd_len_mul p.num.natAbs q.den
  have b2 := dd_len_mul q.num.natAbs p.den
  have b3 := dd_len_mul p.den q.den
  have b4 := dd_len_add (p.num.natAbs * q.den) (q.num.natAbs * p.den)
  have b5 := dd_len_mono (Nat.sub_le (p.num.natAbs * q.den) (q.num.natAbs * p.den))
  have b6 := dd_len_mono (Nat.sub_le (q.num.natAbs * p.den) (p.num.natAbs * q.den))
  have L := limbs_le_dd
  have m1 := mul_eq p.num.natAbs q.den (by have := L p.num.natAbs; omega) (by have := L q.den; omega)
  have m2 := mul_eq q.num.natAbs p.den (by have := L q.num.natAbs; omega) (by have := L p.den; omega)
  have m3 := mul_eq p.den q.den (by have := L p.den; omega) (by have := L q.den; omega)
  have hd0 : p.den * q.den ≠ 0 := Nat.mul_ne_zero p.den_nz q.den_nz
  obtain ⟨x, hx⟩ : ∃ x, x = p.num.natAbs * q.den := ⟨_, rfl⟩
  obtain ⟨y, hy⟩ : ∃ y, y = q.num.natAbs * p.den := ⟨_, rfl⟩
  have hf := add_form p q
  rw [← hx] at b1 b4 b5 b6 m1 hf
  rw [← hy] at b2 b4 b5 b6 m2 hf
  have Lx := L x
  have Ly := L y
  rw [hf]
  obtain ⟨n1, hn1⟩ : ∃ n, n = decide (p.num < 0) := ⟨_, rfl⟩
  obtain ⟨n2, hn2⟩ : ∃ n, n = decide (q.num < 0) := ⟨_, rfl⟩
  unfold n_rat_add rep
  rw [← hn1, ← hn2]
  by_cases hs : n1 = n2
  · subst hs
    have e : sg n1 x + sg n1 y = sg n1 (x + y) := by cases n1 <;> simp [sg]; omega
    rw [e]
    obtain ⟨r, hr, hi⟩ := lowest_is n1 (x + y) (p.den * q.den) hd0 (by omega) (by omega)
    refine ⟨r, ?_, hi⟩
    simp (disch := (first | omega | (simp only [maxN_eq, List.length_append, List.length_cons, List.length_nil, List.length_set, List.length_replicate, List.length_take, List.length_drop]; omega))) only [m1, m2, m3, add_eq x y (by omega) (by omega), hr, beq_self_eq_true, grd_tt, grd_and, grd_dec, grd_ne, cond_dt, cond_df, cond_et, cond_ef, cond_nt, cond_nf, w64, wu64, wu32, wu8, tm, td, bind_some', same_ee, same_er, same_re, same_rr, cond_t, cond_f, Bool.not_true, Bool.not_false]
  · have hsb : (n1 == n2) = false := by simpa using hs
    obtain ⟨c, hc, hc1, hc2⟩ := cmp_eq x y (by omega) (by omega)
    by_cases hle : y ≤ x
    · have hc0 : c ≥ 0 := by
        rcases Int.lt_or_le c 0 with h | h
        · have := hc1.1 h; omega
        · exact h
      have e : sg n1 x + sg n2 y = sg n1 (x - y) := by cases n1 <;> cases n2 <;> simp_all [sg] <;> omega
      rw [e]
      obtain ⟨r, hr, hi⟩ := lowest_is n1 (x - y) (p.den * q.den) hd0 (by omega) (by omega)
      refine ⟨r, ?_, hi⟩
      simp (disch := (first | omega | (simp only [maxN_eq, List.length_append, List.length_cons, List.length_nil, List.length_set, List.length_replicate, List.length_take, List.length_drop]; omega))) only [m1, m2, m3, hsb, hc, sub_eq x y (by omega) hle, hr, grd_tt, grd_and, grd_dec, grd_ne, cond_dt, cond_df, cond_et, cond_ef, cond_nt, cond_nf, w64, wu64, wu32, wu8, tm, td, bind_some', same_ee, same_er, same_re, same_rr, cond_t, cond_f, Bool.not_true, Bool.not_false]
    · have hc0 : ¬ c ≥ 0 := by have := hc1.2 (by omega); omega
      have e : sg n1 x + sg n2 y = sg n2 (y - x) := by cases n1 <;> cases n2 <;> simp_all [sg] <;> omega
      rw [e]
      obtain ⟨r, hr, hi⟩ := lowest_is n2 (y - x) (p.den * q.den) hd0 (by omega) (by omega)
      refine ⟨r, ?_, hi⟩
      simp (disch := (first | omega | (simp only [maxN_eq, List.length_append, List.length_cons, List.length_nil, List.length_set, List.length_replicate, List.length_take, List.length_drop]; omega))) only [m1, m2, m3, hsb, hc, sub_eq y x (by omega) (by omega), hr, grd_tt, grd_and, grd_dec, grd_ne, cond_dt, cond_df, cond_et, cond_ef, cond_nt, cond_nf, w64, wu64, wu32, wu8, tm, td, bind_some', same_ee, same_er, same_re, same_rr, cond_t, cond_f, Bool.not_true, Bool.not_false]
end Go.AM.Num
end
section
set_option linter.unusedSimpArgs false
set_option linter.unusedVariables false
namespace Go.AM.Num

noncomputable def bin (f : Rat → Rat → List UInt8) (a b : List UInt8) : List UInt8 :=
  match rd a, rd b with
  | some p, some q => f p q
  | _, _ => []
theorem bin_txt (f : Rat → Rat → List UInt8) (p q : Rat) : bin f (txt p) (txt q) = f p q := by unfold bin; rw [rd_txt, rd_txt]
theorem bin_l {f : Rat → Rat → List UInt8} {a b : List UInt8} (h : rd a = none) : bin f a b = [] := by unfold bin; rw [h]
theorem bin_r {f : Rat → Rat → List UInt8} {a b : List UInt8} (h : rd b = none) : bin f a b = [] := by
  unfold bin; rw [h]; cases rd a <;> rfl
theorem D_of_len {q : Rat} {n : Nat} (h : (txt q).length ≤ n) : D q ≤ n + 1 := by have := D_le q; omega
theorem nat_mul_lt {a b : Nat} (ha : a < 1000000000) (hb : b < 1000000000) : a * b ≤ 999999998000000001 := by
  have h1 : a * b ≤ 999999999 * b := Nat.mul_le_mul_right _ (by omega)
  omega
section
variable {a b : List UInt8}
theorem add1_eq (p q : Rat) (h1 : p.num.natAbs < 1000000000) (h2 : p.den < 1000000000) (h3 : q.num.natAbs < 1000000000) (h4 : q.den < 1000000000) :
    n_Add_1 (p.num, (p.den : Int)) (q.num, (q.den : Int)) = some ((txt (p + q), ()), ()) := by
  have e1 := nat_mul_lt h1 h4
  have e2 := nat_mul_lt h3 h2
  have e3 := nat_mul_lt h2 h4
  have f1 : (p.num * q.den).natAbs = p.num.natAbs * q.den := by rw [Int.natAbs_mul, Int.natAbs_natCast]
  have f2 : (q.num * p.den).natAbs = q.num.natAbs * p.den := by rw [Int.natAbs_mul, Int.natAbs_natCast]
  have f3 : ((p.den : Int) * q.den).natAbs = p.den * q.den := by rw [Int.natAbs_mul, Int.natAbs_natCast, Int.natAbs_natCast]
  have hd : p.den * q.den ≠ 0 := Nat.mul_ne_zero p.den_nz q.den_nz
  have hfr := frac_eq (p.num * q.den + q.num * p.den) ((p.den : Int) * q.den) (by omega) (by omega) (by omega)
  rw [← Int.natCast_mul, Rat.divInt_ofNat, ← Rat.add_def', Int.natCast_mul] at hfr
  unfold n_Add_1
  simp (disch := (first | omega | (simp only [maxN_eq, List.length_append, List.length_cons, List.length_nil, List.length_set, List.length_replicate, List.length_take, List.length_drop]; omega))) only [hfr, grd_tt, grd_and, grd_dec, grd_ne, cond_dt, cond_df, cond_et, cond_ef, cond_nt, cond_nf, w64, wu64, wu32, wu8, tm, td, bind_some', same_ee, same_er, same_re, same_rr, cond_t, cond_f, Bool.not_true, Bool.not_false]
theorem two_gen {f : Rat → Rat → Rat} {F1 : Int × Int → Int × Int → Option ((List UInt8 × Unit) × Unit)} {F2 : Bool × List Int × List Int → Bool × List Int × List Int → Option ((List UInt8 × Unit) × Unit)}
    {two : List UInt8 → List UInt8 → Unit → Unit → Option ((List UInt8 × Unit) × Unit)}
    (htwo : ∀ a b r1 k1 r2 k2, n_smallOf a = some ((r1, k1, ()), ()) → n_smallOf b = some ((r2, k2, ()), ()) →
      (k1 = true → k2 = true → ∀ t, F1 r1 r2 = some ((t, ()), ()) → two a b () () = some ((t, ()), ())) ∧
      ((k1 = false ∨ k2 = false) → ∀ s1 o1 s2 o2, n_read a = some ((s1, o1, ()), ()) → n_read b = some ((s2, o2, ()), ()) →
        ((o1 = false ∨ o2 = false) → two a b () () = some (([], ()), ())) ∧ (o1 = true → o2 = true → ∀ t, F2 s1 s2 = some ((t, ()), ()) → two a b () () = some ((t, ()), ()))))
    (ok : Rat → Prop)
    (h1 : ∀ p q : Rat, ok q → p.num.natAbs < 1000000000 → p.den < 1000000000 → q.num.natAbs < 1000000000 → q.den < 1000000000 → F1 (p.num, (p.den : Int)) (q.num, (q.den : Int)) = some ((txt (f p q), ()), ()))
    (h2 : ∀ p q : Rat, ok q → D p + D q ≤ 10000000 → F2 (rep p) (rep q) = some ((txt (f p q), ()), ()))
    (ha : a.length ≤ 3000000) (hb : b.length ≤ 3000000) (hok : ∀ q, b = txt q → ok q) : two a b () () = some ((bin (fun p q => txt (f p q)) a b, ()), ()) := by
  obtain ⟨r1, k1, e1, s1⟩ := small_spec a (by omega)
  obtain ⟨r2, k2, e2, s2⟩ := small_spec b (by omega)
  obtain ⟨t1, t2⟩ := htwo a b r1 k1 r2 k2 e1 e2
  by_cases hk : k1 = true ∧ k2 = true
  · obtain ⟨p, rfl, rfl, b1, b2⟩ := s1 hk.1
    obtain ⟨q, rfl, rfl, b3, b4⟩ := s2 hk.2
    rw [bin_txt]
    exact t1 hk.1 hk.2 _ (h1 p q (hok q rfl) b1 b2 b3 b4)
  · obtain ⟨r, o1, e3, q1⟩ := read_spec a (by omega)
    obtain ⟨r', o2, e4, q2⟩ := read_spec b (by omega)
    have hk' : k1 = false ∨ k2 = false := by
      rcases Bool.eq_false_or_eq_true k1 with h | h
      · rcases Bool.eq_false_or_eq_true k2 with h' | h'
        · exact absurd ⟨h, h'⟩ hk
        · exact .inr h'
      · exact .inl h
    obtain ⟨u1, u2⟩ := t2 hk' r o1 r' o2 e3 e4
    rcases q1 with ⟨rfl, p, rfl, rfl⟩ | ⟨rfl, hn⟩
    · rcases q2 with ⟨rfl, q, rfl, rfl⟩ | ⟨rfl, hn⟩
      · rw [bin_txt]
        exact u2 rfl rfl _ (h2 p q (hok q rfl) (by have := D_of_len ha; have := D_of_len hb; omega))
      · rw [bin_r (rd_none hn)]
        exact u1 (.inr rfl)
    · rw [bin_l (rd_none hn)]
      exact u1 (.inl rfl)
theorem Add_eq (ha : a.length ≤ 3000000) (hb : b.length ≤ 3000000) : n_Add a b = some ((bin (fun p q => txt (p + q)) a b, ()), ()) := by
  have := two_gen (f := (· + ·)) (F1 := n_Add_1) (F2 := n_Add_2) (two := n_two_n_Add_1_n_Add_2) (a := a) (b := b) (by
    intro a b r1 k1 r2 k2 e1 e2
    constructor
    · rintro rfl rfl t ht
      unfold n_two_n_Add_1_n_Add_2
      simp (disch := (first | omega | (simp only [maxN_eq, List.length_append, List.length_cons, List.length_nil, List.length_set, List.length_replicate, List.length_take, List.length_drop]; omega))) only [e1, e2, ht, grd_tt, grd_and, grd_dec, grd_ne, cond_dt, cond_df, cond_et, cond_ef, cond_nt, cond_nf, w64, wu64, wu32, wu8, tm, td, bind_some', same_ee, same_er, same_re, same_rr, cond_t, cond_f, Bool.not_true, Bool.not_false]
    · intro hk s1 o1 s2 o2 e3 e4
      constructor
      · intro ho
        unfold n_two_n_Add_1_n_Add_2
        cases k1 <;> cases k2 <;> cases o1 <;> cases o2 <;> simp_all [cond]
      · rintro rfl rfl t ht
        unfold n_two_n_Add_1_n_Add_2
        cases k1 <;> cases k2 <;> simp_all [cond]) (fun _ => True) (fun p q _ => add1_eq p q) (fun p q _ h => by
    obtain ⟨r, hr, hi⟩ := radd p q h
    unfold n_Add_2
    simp (disch := (first | omega | (simp only [maxN_eq, List.length_append, List.length_cons, List.length_nil, List.length_set, List.length_replicate, List.length_take, List.length_drop]; omega))) only [hr, hi.text, grd_tt, grd_and, grd_dec, grd_ne, cond_dt, cond_df, cond_et, cond_ef, cond_nt, cond_nf, w64, wu64, wu32, wu8, tm, td, bind_some', same_ee, same_er, same_re, same_rr, cond_t, cond_f, Bool.not_true, Bool.not_false]) ha hb (fun _ _ => trivial)
  unfold n_Add
  rw [this]; rfl
theorem txt_zero : txt 0 = [48] := by unfold txt; simp [dd_zero]
end

theorem valid_eq {a : List UInt8} (ha : a.length ≤ 10000000) : n_Valid a = some (((rd a).isSome, ()), ()) := by
  obtain ⟨r1, k1, e1, s1⟩ := small_spec a ha
  unfold n_Valid
  cases k1 with
  | true =>
    obtain ⟨p, rfl, rfl, b1, b2⟩ := s1 rfl
    simp (disch := (first | omega | (simp only [maxN_eq, List.length_append, List.length_cons, List.length_nil, List.length_set, List.length_replicate, List.length_take, List.length_drop]; omega))) only [e1, grd_tt, grd_and, grd_dec, grd_ne, cond_dt, cond_df, cond_et, cond_ef, cond_nt, cond_nf, w64, wu64, wu32, wu8, tm, td, bind_some', same_ee, same_er, same_re, same_rr, cond_t, cond_f, Bool.not_true, Bool.not_false]
    rw [rd_txt]; rfl
  | false =>
    obtain ⟨r, o1, e3, q1⟩ := read_spec a ha
    rcases q1 with ⟨rfl, p, rfl, rfl⟩ | ⟨rfl, hn⟩
    · simp (disch := (first | omega | (simp only [maxN_eq, List.length_append, List.length_cons, List.length_nil, List.length_set, List.length_replicate, List.length_take, List.length_drop]; omega))) only [e1, e3, grd_tt, grd_and, grd_dec, grd_ne, cond_dt, cond_df, cond_et, cond_ef, cond_nt, cond_nf, w64, wu64, wu32, wu8, tm, td, bind_some', same_ee, same_er, same_re, same_rr, cond_t, cond_f, Bool.not_true, Bool.not_false]
      rw [rd_txt]; rfl
    · simp (disch := (first | omega | (simp only [maxN_eq, List.length_append, List.length_cons, List.length_nil, List.length_set, List.length_replicate, List.length_take, List.length_drop]; omega))) only [e1, e3, grd_tt, grd_and, grd_dec, grd_ne, cond_dt, cond_df, cond_et, cond_ef, cond_nt, cond_nf, w64, wu64, wu32, wu8, tm, td, bind_some', same_ee, same_er, same_re, same_rr, cond_t, cond_f, Bool.not_true, Bool.not_false]
      rw [rd_none hn]; rfl
noncomputable def sSign (a : List UInt8) : Int := match rd a with | some q => q.num.sign | none => 0
theorem txt_head (q : Rat) : (q.num < 0 → ∃ s, txt q = 45 :: s) ∧ (0 < q.num → ∃ c s, txt q = c :: s ∧ c ≠ 45) := by
  unfold txt
  constructor
  · intro h; rw [if_pos h]; exact ⟨_, rfl⟩
  · intro h
    rw [if_neg (by omega)]
    obtain ⟨c, s, e, hc, _⟩ := dd_head (n := q.num.natAbs) (by omega)
    refine ⟨c, _, by rw [e]; rfl, ?_⟩
    rintro rfl
    have := hc.1; simp at this
theorem txt_eq_zero {q : Rat} : txt q = [48] ↔ q = 0 := by
  constructor
  · intro h; rw [← txt_zero] at h; exact txt_inj h
  · rintro rfl; exact txt_zero
theorem sign_eq {a : List UInt8} (ha : a.length ≤ 10000000) : n_Sign a = some ((sSign a, ()), ()) := by
  have hv := valid_eq ha
  unfold n_Sign sSign
  cases hr : rd a with
  | none => rw [hr] at hv; simp (disch := (first | omega | (simp only [maxN_eq, List.length_append, List.length_cons, List.length_nil, List.length_set, List.length_replicate, List.length_take, List.length_drop]; omega))) only [hv, Option.isSome_none, grd_tt, grd_and, grd_dec, grd_ne, cond_dt, cond_df, cond_et, cond_ef, cond_nt, cond_nf, w64, wu64, wu32, wu8, tm, td, bind_some', same_ee, same_er, same_re, same_rr, cond_t, cond_f, Bool.not_true, Bool.not_false]
  | some q =>
    rw [hr] at hv
    have hq := rd_some hr
    rcases Int.lt_trichotomy q.num 0 with h | h | h
    · obtain ⟨s, e⟩ := (txt_head q).1 h
      have hne : a ≠ [48] := by rw [hq, e]; simp
      have e2 : ((a.getD 0 0).toNat : Int) = 45 := by rw [hq, e]; rfl
      have hal : 0 < a.length := by rw [hq, e]; simp
      have h00 : ((0 : Int)).toNat = 0 := rfl
      simp (disch := (first | omega | (simp only [maxN_eq, List.length_append, List.length_cons, List.length_nil, List.length_set, List.length_replicate, List.length_take, List.length_drop]; omega))) only [hv, Option.isSome_some, beq_ne hne, h00, e2, grd_tt, grd_and, grd_dec, grd_ne, cond_dt, cond_df, cond_et, cond_ef, cond_nt, cond_nf, w64, wu64, wu32, wu8, tm, td, bind_some', same_ee, same_er, same_re, same_rr, cond_t, cond_f, Bool.not_true, Bool.not_false]
      rw [Int.sign_eq_neg_one_of_neg h]
    · have hz : a = [48] := by rw [hq]; exact txt_eq_zero.2 (Rat.num_eq_zero.1 h)
      simp (disch := (first | omega | (simp only [maxN_eq, List.length_append, List.length_cons, List.length_nil, List.length_set, List.length_replicate, List.length_take, List.length_drop]; omega))) only [hv, Option.isSome_some, beq_of hz, grd_tt, grd_and, grd_dec, grd_ne, cond_dt, cond_df, cond_et, cond_ef, cond_nt, cond_nf, w64, wu64, wu32, wu8, tm, td, bind_some', same_ee, same_er, same_re, same_rr, cond_t, cond_f, Bool.not_true, Bool.not_false]
      rw [h]; rfl
    · obtain ⟨c, s, e, hc⟩ := (txt_head q).2 h
      have hne : a ≠ [48] := fun e0 => by
        rw [hq, txt_eq_zero] at e0; rw [e0] at h; simp at h
      have e2 : ((a.getD 0 0).toNat : Int) ≠ 45 := by
        rw [hq, e]
        show ((c.toNat : Nat) : Int) ≠ 45
        intro h45
        exact hc (UInt8.toNat_inj.1 (by show c.toNat = 45; omega))
      have hal : 0 < a.length := by rw [hq, e]; simp
      have h00 : ((0 : Int)).toNat = 0 := rfl
      simp (disch := (first | omega | (simp only [maxN_eq, List.length_append, List.length_cons, List.length_nil, List.length_set, List.length_replicate, List.length_take, List.length_drop]; omega))) only [hv, Option.isSome_some, beq_ne hne, h00, cond_ef e2, grd_tt, grd_and, grd_dec, grd_ne, cond_dt, cond_df, cond_et, cond_ef, cond_nt, cond_nf, w64, wu64, wu32, wu8, tm, td, bind_some', same_ee, same_er, same_re, same_rr, cond_t, cond_f, Bool.not_true, Bool.not_false]
      rw [Int.sign_eq_one_of_pos h]

noncomputable def un (f : Rat → List UInt8) (a : List UInt8) : List UInt8 := match rd a with | some q => f q | none => []
theorem un_txt (f : Rat → List UInt8) (q : Rat) : un f (txt q) = f q := by unfold un; rw [rd_txt]
theorem un_none {f : Rat → List UInt8} {a : List UInt8} (h : rd a = none) : un f a = [] := by unfold un; rw [h]
theorem txt_neg_of_neg {q : Rat} (h : q.num < 0) : txt q = 45 :: txt (-q) := by
  unfold txt
  rw [if_pos h, Rat.neg_num, Rat.neg_den, if_neg (show ¬ (-q.num < 0) by omega), Int.natAbs_neg]; rfl
theorem rd_nil : rd [] = none := rd_none fun q h => by
  unfold txt at h
  have := dd_ne q.num.natAbs
  simp at h
  exact this h.2.1
theorem neg_eq {a : List UInt8} (ha : a.length ≤ 10000000) : n_Neg a = some ((un (fun q => txt (-q)) a, ()), ()) := by
  have hs := sign_eq ha
  unfold n_Neg
  cases hr : rd a with
  | none =>
    have hne : a ≠ [48] := fun e => by rw [e, ← txt_zero, rd_txt] at hr; cases hr
    have e : sSign a = 0 := by unfold sSign; rw [hr]
    rw [e] at hs
    rw [un_none hr]
    simp (disch := (first | omega | (simp only [maxN_eq, List.length_append, List.length_cons, List.length_nil, List.length_set, List.length_replicate, List.length_take, List.length_drop]; omega))) only [hs, beq_ne hne, grd_tt, grd_and, grd_dec, grd_ne, cond_dt, cond_df, cond_et, cond_ef, cond_nt, cond_nf, w64, wu64, wu32, wu8, tm, td, bind_some', same_ee, same_er, same_re, same_rr, cond_t, cond_f, Bool.not_true, Bool.not_false]
  | some q =>
    have hq := rd_some hr
    have e : sSign a = q.num.sign := by unfold sSign; rw [hr]
    rw [e] at hs
    have hu : un (fun q => txt (-q)) a = txt (-q) := by rw [hq, un_txt]
    rw [hu]
    rcases Int.lt_trichotomy q.num 0 with h | h | h
    · rw [Int.sign_eq_neg_one_of_neg h] at hs
      have ht := txt_neg_of_neg h
      have hal : 1 ≤ a.length := by rw [hq, ht]; simp
      have h11 : ((1 : Int)).toNat = 1 := rfl
      simp (disch := (first | omega | (simp only [maxN_eq, List.length_append, List.length_cons, List.length_nil, List.length_set, List.length_replicate, List.length_take, List.length_drop]; omega))) only [hs, h11, grd_tt, grd_and, grd_dec, grd_ne, cond_dt, cond_df, cond_et, cond_ef, cond_nt, cond_nf, w64, wu64, wu32, wu8, tm, td, bind_some', same_ee, same_er, same_re, same_rr, cond_t, cond_f, Bool.not_true, Bool.not_false]
      rw [hq, ht]; rfl
    · have hq0 : q = 0 := Rat.num_eq_zero.1 h
      have hz : a = [48] := by rw [hq]; exact txt_eq_zero.2 hq0
      rw [h, Int.sign_zero] at hs
      simp (disch := (first | omega | (simp only [maxN_eq, List.length_append, List.length_cons, List.length_nil, List.length_set, List.length_replicate, List.length_take, List.length_drop]; omega))) only [hs, beq_of hz, grd_tt, grd_and, grd_dec, grd_ne, cond_dt, cond_df, cond_et, cond_ef, cond_nt, cond_nf, w64, wu64, wu32, wu8, tm, td, bind_some', same_ee, same_er, same_re, same_rr, cond_t, cond_f, Bool.not_true, Bool.not_false]
      rw [hz, hq0, Rat.neg_zero, txt_zero]
    · rw [Int.sign_eq_one_of_pos h] at hs
      have ht := txt_neg_of_neg (q := -q) (by rw [Rat.neg_num]; omega)
      rw [Rat.neg_neg] at ht
      have g : ([45] : List UInt8).length + a.length ≤ maxS := by rw [maxS_eq]; simp; omega
      simp (disch := (first | omega | (simp only [maxN_eq, List.length_append, List.length_cons, List.length_nil, List.length_set, List.length_replicate, List.length_take, List.length_drop]; omega))) only [hs, grd_dec g, grd_tt, grd_and, grd_dec, grd_ne, cond_dt, cond_df, cond_et, cond_ef, cond_nt, cond_nf, w64, wu64, wu32, wu8, tm, td, bind_some', same_ee, same_er, same_re, same_rr, cond_t, cond_f, Bool.not_true, Bool.not_false]
      rw [ht, hq]; rfl
theorem un_len {f : Rat → Rat} {k : Nat} (hf : ∀ q, D (f q) ≤ D q) {a : List UInt8} (ha : a.length ≤ k) : (un (fun q => txt (f q)) a).length ≤ k + 3 := by
  unfold un
  cases hr : rd a with
  | none => simp
  | some q =>
    have hq := rd_some hr
    have h1 := txt_len (f q)
    have h2 := hf q
    have h3 := D_le q
    rw [← hq] at h3
    show (txt (f q)).length ≤ k + 3
    omega
theorem neg_len {k : Nat} {a : List UInt8} (ha : a.length ≤ k) : (un (fun q => txt (-q)) a).length ≤ k + 3 := un_len (fun q => by rw [D_neg]; exact Nat.le_refl _) ha
theorem bin_len {f : Rat → Rat → Rat} {k : Nat} (hf : ∀ p q, D (f p q) ≤ 2 * (D p + D q) + 1) {a b : List UInt8} (ha : a.length ≤ k) (hb : b.length ≤ k) : (bin (fun p q => txt (f p q)) a b).length ≤ 4 * k + 8 := by
  unfold bin
  cases hr : rd a with
  | none => simp
  | some p =>
    cases hr2 : rd b with
    | none => simp
    | some q =>
      have h1 := txt_len (f p q)
      have h2 := hf p q
      have h3 := D_le p
      have h4 := D_le q
      rw [← rd_some hr] at h3
      rw [← rd_some hr2] at h4
      show (txt (f p q)).length ≤ _
      omega
theorem sub_eq' {a b : List UInt8} (ha : a.length ≤ 2000000) (hb : b.length ≤ 2000000) : n_Sub a b = some ((bin (fun p q => txt (p - q)) a b, ()), ()) := by
  unfold n_Sub
  rw [neg_eq (by omega), bind_some']
  dsimp only
  rw [Add_eq (by omega) (by have := neg_len hb; omega), bind_some']
  congr 3
  unfold un
  cases hr : rd b with
  | none => rw [bin_r rd_nil, bin_r hr]
  | some q =>
    have hq := rd_some hr
    unfold bin
    rw [rd_txt, hr]
    cases rd a with
    | none => rfl
    | some p => simp only [Rat.sub_eq_add_neg]
noncomputable def sCmp (a b : List UInt8) : Int :=
  match rd a, rd b with
  | some p, some q => (p - q).num.sign
  | _, _ => 0
theorem cmp_eq' {a b : List UInt8} (ha : a.length ≤ 2000000) (hb : b.length ≤ 2000000) : n_Cmp a b = some ((sCmp a b, ()), ()) := by
  unfold n_Cmp
  have hl := bin_len (f := fun p q => p - q) (fun p q => by rw [Rat.sub_eq_add_neg]; have := D_add p (-q); rw [D_neg] at this; exact this) ha hb
  rw [sub_eq' ha hb, bind_some']
  dsimp only
  rw [sign_eq (by omega), bind_some']
  congr 3
  unfold sSign sCmp bin
  cases hr : rd a with
  | none => simp only [rd_nil]
  | some p =>
    cases hr2 : rd b with
    | none => simp only [rd_nil]
    | some q => simp only [rd_txt]
end Go.AM.Num
end
section
set_option linter.unusedSimpArgs false
set_option linter.unusedVariables false
namespace Go.AM.Num
theorem txt_int (n : Int) : txt (n : Rat) = (if n < 0 then [45] else []) ++ dd n.natAbs := by
  unfold txt
  rw [Rat.num_intCast, Rat.den_intCast]; simp
theorem tx_int (neg : Bool) (m : Nat) : tx neg m 1 = txt ((sg neg m : Int) : Rat) := by
  rw [txt_int, sg_natAbs]
  unfold tx
  simp only [sg_neg_iff]; simp
theorem den_one {q : Rat} (h : q.den = 1) : q = ((q.num : Int) : Rat) := Rat.ext (by rw [Rat.num_intCast]) (by rw [Rat.den_intCast, h])

noncomputable def isI (a : List UInt8) : Bool := match rd a with | some q => q.den == 1 | none => false
theorem isI_txt (q : Rat) : isI (txt q) = (q.den == 1) := by unfold isI; rw [rd_txt]
theorem isI_true {a : List UInt8} (h : isI a = true) : ∃ n : Int, a = txt (n : Rat) ∧ rd a = some (n : Rat) := by
  unfold isI at h
  cases hr : rd a with
  | none => rw [hr] at h; cases h
  | some q =>
    rw [hr] at h
    have hd : q.den = 1 := by simpa using h
    exact ⟨q.num, by rw [← den_one hd]; exact rd_some hr, by rw [← den_one hd]⟩
theorem isI_int (n : Int) : isI (txt (n : Rat)) = true := by rw [isI_txt, Rat.den_intCast]; rfl
theorem isInt_eq {a : List UInt8} (ha : a.length ≤ 10000000) : n_IsInt a = some ((isI a, ()), ()) := by
  obtain ⟨neg, s, hcp, has, hs⟩ := sign_cut a
  have hsl : s.length ≤ 10000000 := by rw [has, List.length_append] at ha; omega
  have hn := numeral_eq s (by omega)
  unfold n_IsInt
  by_cases hd : s = dd (dval s)
  · have good : (neg = true → dval s ≠ 0) → isI a = true := by
      intro h
      have : a = txt ((sg neg (dval s) : Int) : Rat) := by
        have e := sgn_tx (neg := neg) (m := dval s) (d := 1) h
        rw [if_pos rfl, List.append_nil, ← hd] at e
        rw [has, e, tx_int]
      rw [this]; exact isI_int _
    by_cases h0 : s = [48]
    · cases neg with
      | true =>
        have hb : isI a = false := by
          cases hi : isI a with
          | false => rfl
          | true =>
            obtain ⟨n, hn1, _⟩ := isI_true hi
            obtain ⟨e1, e2⟩ := shape hs (has ▸ hn1)
            rw [Rat.den_intCast, if_pos rfl, List.append_nil, Rat.num_intCast, h0, ← dd_zero] at e2
            rw [Rat.num_intCast] at e1
            have := of_decide_eq_true e1.symm
            have := dd_inj e2
            omega
        rw [hb]
        simp (disch := (first | omega | (simp only [maxN_eq, List.length_append, List.length_cons, List.length_nil, List.length_set, List.length_replicate, List.length_take, List.length_drop]; omega))) only [hcp, hn, beq_of hd, beq_of h0, grd_tt, grd_and, grd_dec, grd_ne, cond_dt, cond_df, cond_et, cond_ef, cond_nt, cond_nf, w64, wu64, wu32, wu8, tm, td, bind_some', same_ee, same_er, same_re, same_rr, cond_t, cond_f, Bool.not_true, Bool.not_false]
      | false =>
        rw [good (fun h => by cases h)]
        simp (disch := (first | omega | (simp only [maxN_eq, List.length_append, List.length_cons, List.length_nil, List.length_set, List.length_replicate, List.length_take, List.length_drop]; omega))) only [hcp, hn, beq_of hd, grd_tt, grd_and, grd_dec, grd_ne, cond_dt, cond_df, cond_et, cond_ef, cond_nt, cond_nf, w64, wu64, wu32, wu8, tm, td, bind_some', same_ee, same_er, same_re, same_rr, cond_t, cond_f, Bool.not_true, Bool.not_false]
    · have hm0 : dval s ≠ 0 := fun e => h0 (by rw [hd, e, dd_zero])
      rw [good (fun _ => hm0)]
      cases neg with
      | true => simp (disch := (first | omega | (simp only [maxN_eq, List.length_append, List.length_cons, List.length_nil, List.length_set, List.length_replicate, List.length_take, List.length_drop]; omega))) only [hcp, hn, beq_of hd, beq_ne h0, grd_tt, grd_and, grd_dec, grd_ne, cond_dt, cond_df, cond_et, cond_ef, cond_nt, cond_nf, w64, wu64, wu32, wu8, tm, td, bind_some', same_ee, same_er, same_re, same_rr, cond_t, cond_f, Bool.not_true, Bool.not_false]
      | false => simp (disch := (first | omega | (simp only [maxN_eq, List.length_append, List.length_cons, List.length_nil, List.length_set, List.length_replicate, List.length_take, List.length_drop]; omega))) only [hcp, hn, beq_of hd, grd_tt, grd_and, grd_dec, grd_ne, cond_dt, cond_df, cond_et, cond_ef, cond_nt, cond_nf, w64, wu64, wu32, wu8, tm, td, bind_some', same_ee, same_er, same_re, same_rr, cond_t, cond_f, Bool.not_true, Bool.not_false]
  · have hb : isI a = false := by
      cases hi : isI a with
      | false => rfl
      | true =>
        obtain ⟨n, hn1, _⟩ := isI_true hi
        obtain ⟨e1, e2⟩ := shape hs (has ▸ hn1)
        rw [Rat.den_intCast, if_pos rfl, List.append_nil] at e2
        exact absurd (by rw [e2, dval_dd]) hd
    rw [hb]
    simp (disch := (first | omega | (simp only [maxN_eq, List.length_append, List.length_cons, List.length_nil, List.length_set, List.length_replicate, List.length_take, List.length_drop]; omega))) only [hcp, hn, beq_ne hd, grd_tt, grd_and, grd_dec, grd_ne, cond_dt, cond_df, cond_et, cond_ef, cond_nt, cond_nf, w64, wu64, wu32, wu8, tm, td, bind_some', same_ee, same_er, same_re, same_rr, cond_t, cond_f, Bool.not_true, Bool.not_false]
end Go.AM.Num
end
section
set_option linter.unusedSimpArgs false
set_option linter.unusedVariables false
namespace Go.AM.Num
def figs (s : List UInt8) : Prop := s ≠ [] ∧ AllD s
instance (s : List UInt8) : Decidable (AllD s) := by unfold AllD isD; infer_instance
instance (s : List UInt8) : Decidable (figs s) := by unfold figs; infer_instance
inductive DecParts : List UInt8 → Bool → List UInt8 → Option (List UInt8) → Prop
  | mk {a s : List UInt8} {neg : Bool} (h : a = sgn neg ++ s) (hs : neg = false → ∀ r, s ≠ 45 :: r) {x : List UInt8} {y : Option (List UInt8)}
      (hxy : (y = none ∧ s = x ∧ (46 : UInt8) ∉ s) ∨ (∃ z, y = some z ∧ s = x ++ 46 :: z ∧ (46 : UInt8) ∉ x)) : DecParts a neg x y
end Go.AM.Num
end
section
set_option linter.unusedSimpArgs false
set_option linter.unusedVariables false
namespace Go.AM.Num

theorem r_digits_eq {s : List UInt8} (hl : s.length ≤ 1000000000) : r_digits s = some ((decide (figs s), ()), ()) := by
  obtain ⟨r, hr, hq⟩ := loopO_ind (step := r_digits_s2) (Q := fun r => (AllD s ∧ r = (Ex.exit 0, (s, false, (s.length : Int), ()))) ∨ (¬ AllD s ∧ ∃ i, r = (Ex.ret, (s, false, i, ()))))
    (fun m x => ∃ k : Nat, m + k = s.length ∧ x = (s, false, (k : Int), ()) ∧ AllD (s.take k)) (by
      rintro m x ⟨k, hm, rfl, hd⟩
      by_cases hk : k < s.length
      · have hg : s.getD k 0 = s[k] := by rw [List.getD_eq_getElem?_getD, List.getElem?_eq_getElem hk]; rfl
        have e : (k : Int).toNat = k := by omega
        have hmem : s[k] ∈ s := List.getElem_mem hk
        by_cases h1 : s[k].toNat < 48
        · refine .inl ⟨_, ?_, ?_, .inr ⟨fun h => ?_, (k : Int), rfl⟩⟩
          · simp (disch := (first | omega | (simp only [maxN_eq, List.length_append, List.length_cons, List.length_nil, List.length_set, List.length_replicate, List.length_take, List.length_drop]; omega))) only [r_digits_s2, e, hg, grd_tt, grd_and, grd_dec, grd_ne, cond_dt, cond_df, cond_et, cond_ef, cond_nt, cond_nf, w64, wu64, wu32, wu8, tm, td, bind_some', same_ee, same_er, same_re, same_rr, cond_t, cond_f, Bool.not_true, Bool.not_false]
          · simp
          · have := (h _ hmem).1; omega
        · by_cases h2 : s[k].toNat > 57
          · refine .inl ⟨_, ?_, ?_, .inr ⟨fun h => ?_, (k : Int), rfl⟩⟩
            · simp (disch := (first | omega | (simp only [maxN_eq, List.length_append, List.length_cons, List.length_nil, List.length_set, List.length_replicate, List.length_take, List.length_drop]; omega))) only [r_digits_s2, e, hg, grd_tt, grd_and, grd_dec, grd_ne, cond_dt, cond_df, cond_et, cond_ef, cond_nt, cond_nf, w64, wu64, wu32, wu8, tm, td, bind_some', same_ee, same_er, same_re, same_rr, cond_t, cond_f, Bool.not_true, Bool.not_false]
            · simp
            · have := (h _ hmem).2; omega
          · refine .inr ⟨m - 1, _, ?_, by omega, k + 1, by omega, rfl, ?_⟩
            · simp (disch := (first | omega | (simp only [maxN_eq, List.length_append, List.length_cons, List.length_nil, List.length_set, List.length_replicate, List.length_take, List.length_drop]; omega))) only [r_digits_s2, e, hg, grd_tt, grd_and, grd_dec, grd_ne, cond_dt, cond_df, cond_et, cond_ef, cond_nt, cond_nf, w64, wu64, wu32, wu8, tm, td, bind_some', same_ee, same_er, same_re, same_rr, cond_t, cond_f, Bool.not_true, Bool.not_false]
              rfl
            · rw [List.take_succ_eq_append_getElem hk]
              refine hd.app fun c hc => ?_
              rw [List.mem_singleton.1 hc]
              exact ⟨by omega, by omega⟩
      · have hks : k = s.length := by omega
        subst hks
        refine .inl ⟨_, ?_, ?_, .inl ⟨by simpa using hd, rfl⟩⟩
        · simp (disch := (first | omega | (simp only [maxN_eq, List.length_append, List.length_cons, List.length_nil, List.length_set, List.length_replicate, List.length_take, List.length_drop]; omega))) only [r_digits_s2, grd_tt, grd_and, grd_dec, grd_ne, cond_dt, cond_df, cond_et, cond_ef, cond_nt, cond_nf, w64, wu64, wu32, wu8, tm, td, bind_some', same_ee, same_er, same_re, same_rr, cond_t, cond_f, Bool.not_true, Bool.not_false]
        · simp) s.length (s, false, 0, ()) ⟨0, by omega, rfl, by simp [AllD]⟩
  unfold r_digits
  rw [hr]
  rcases hq with ⟨hd, rfl⟩ | ⟨hd, i, rfl⟩
  · simp (disch := (first | omega | (simp only [maxN_eq, List.length_append, List.length_cons, List.length_nil, List.length_set, List.length_replicate, List.length_take, List.length_drop]; omega))) only [grd_tt, grd_and, grd_dec, grd_ne, cond_dt, cond_df, cond_et, cond_ef, cond_nt, cond_nf, w64, wu64, wu32, wu8, tm, td, bind_some', same_ee, same_er, same_re, same_rr, cond_t, cond_f, Bool.not_true, Bool.not_false]
    by_cases h0 : s = []
    · subst h0
      have : decide (figs []) = false := decide_eq_false (fun h => h.1 rfl)
      rw [this]; rfl
    · rw [beq_ne h0, decide_eq_true (show figs s from ⟨h0, hd⟩)]; rfl
  · simp (disch := (first | omega | (simp only [maxN_eq, List.length_append, List.length_cons, List.length_nil, List.length_set, List.length_replicate, List.length_take, List.length_drop]; omega))) only [grd_tt, grd_and, grd_dec, grd_ne, cond_dt, cond_df, cond_et, cond_ef, cond_nt, cond_nf, w64, wu64, wu32, wu8, tm, td, bind_some', same_ee, same_er, same_re, same_rr, cond_t, cond_f, Bool.not_true, Bool.not_false]
    rw [decide_eq_false (fun h => hd h.2)]
theorem trim_dval {s : List UInt8} (hd : AllD s) (hne : s ≠ []) (hl : s.length ≤ 1000000000) : r_trim s = some ((dd (dval s), ()), ()) := by
  obtain ⟨r, hr, rfl⟩ := loopO_ind (step := r_trim_s1) (Q := fun r => r = (Ex.exit 0, (dd (dval s), ())))
    (fun m x => ∃ t : List UInt8, x = (t, ()) ∧ m = t.length ∧ AllD t ∧ t ≠ [] ∧ dval t = dval s ∧ t.length ≤ 1000000000) (by
      rintro m x ⟨t, rfl, hm, h1, h2, h3, h4⟩
      cases t with
      | nil => exact absurd rfl h2
      | cons c t =>
        have h00 : ((0 : Int)).toNat = 0 := rfl
        have h11 : ((1 : Int)).toNat = 1 := rfl
        have hg : (c :: t : List UInt8).getD 0 0 = c := rfl
        have hlen : (c :: t).length = t.length + 1 := rfl
        by_cases ht : t = []
        · subst ht
          refine .inl ⟨(Ex.exit 0, ([c], ())), ?_, by simp, ?_⟩
          · simp only [r_trim_s1]
            rw [cond_df (by simp)]
          · rw [← h3, ← dd_of h1 h2 (by
              by_cases hc : c = 48
              · left; rw [hc]
              · right; simpa using hc)]
        · have hpos : 0 < t.length := List.length_pos_iff.2 ht
          by_cases hc : c = 48
          · subst hc
            refine .inr ⟨t.length, (t, ()), ?_, by omega, t, rfl, rfl, fun x hx => h1 x (by simp [hx]), ht, ?_, by omega⟩
            · have h48 : (((48 : UInt8).toNat : Nat) : Int) = 48 := rfl
              simp only [r_trim_s1]
              rw [cond_dt (by omega), grd_and, grd_dec (by omega), grd_dec (by omega), h00, hg, h48]
              rw [cond_et rfl, grd_and, grd_dec (by omega), grd_dec (by omega), h11]; rfl
            · rw [← h3, dval_cons]; simp [dig]
          · refine .inl ⟨(Ex.exit 0, (c :: t, ())), ?_, by simp, ?_⟩
            · have hne' : ((c.toNat : Nat) : Int) ≠ 48 := fun e => hc (UInt8.toNat_inj.1 (by show c.toNat = 48; omega))
              simp only [r_trim_s1]
              rw [cond_dt (by omega), grd_and, grd_dec (by omega), grd_dec (by omega), h00, hg, cond_ef hne']
            · rw [← h3, ← dd_of h1 h2 (.inr (by simpa using hc))]) s.length (s, ()) ⟨s, rfl, rfl, hd, hne, rfl, hl⟩
  unfold r_trim
  rw [hr]
  simp (disch := (first | omega | (simp only [maxN_eq, List.length_append, List.length_cons, List.length_nil, List.length_set, List.length_replicate, List.length_take, List.length_drop]; omega))) only [grd_tt, grd_and, grd_dec, grd_ne, cond_dt, cond_df, cond_et, cond_ef, cond_nt, cond_nf, w64, wu64, wu32, wu8, tm, td, bind_some', same_ee, same_er, same_re, same_rr, cond_t, cond_f, Bool.not_true, Bool.not_false]

theorem bytesLess_dval {a b : List UInt8} (ha : AllD a) (hb : AllD b) (hl : a.length = b.length) : strLt a b = decide (dval a < dval b) := by
  unfold strLt
  induction a generalizing b with
  | nil =>
    cases b with
    | nil => simp [Op.bytesLess, dval]
    | cons c b => simp at hl
  | cons x a ih =>
    cases b with
    | nil => simp at hl
    | cons y b =>
      have hx := ha x (by simp)
      have hy := hb y (by simp)
      have hA : AllD a := fun c hc => ha c (by simp [hc])
      have hB : AllD b := fun c hc => hb c (by simp [hc])
      have hl' : a.length = b.length := by simpa using hl
      have la := dval_lt hA
      have lb := dval_lt hB
      rw [dval_cons, dval_cons, hl']
      rw [hl'] at la
      have ih' := ih hA hB hl'
      have hdx : dig x = x.toNat - 48 := rfl
      have hdy : dig y = y.toNat - 48 := rfl
      have := hx.1
      have := hy.1
      rcases Nat.lt_trichotomy x.toNat y.toNat with h | h | h
      · have h1 : (dig x + 1) * 10 ^ b.length ≤ dig y * 10 ^ b.length := Nat.mul_le_mul_right _ (by omega)
        rw [Nat.add_mul] at h1
        rw [decide_eq_true (by omega)]
        unfold Op.bytesLess
        have : x < y := UInt8.lt_iff_toNat_lt.2 h
        simp [this]
      · have hxy : x = y := UInt8.toNat_inj.1 h
        subst hxy
        unfold Op.bytesLess
        have h1 : ¬ x < x := fun e => Nat.lt_irrefl _ (UInt8.lt_iff_toNat_lt.1 e)
        simp only [h1, if_false]
        rw [ih']
        simp
      · have h1 : (dig y + 1) * 10 ^ b.length ≤ dig x * 10 ^ b.length := Nat.mul_le_mul_right _ (by omega)
        rw [Nat.add_mul] at h1
        rw [decide_eq_false (by omega)]
        unfold Op.bytesLess
        have h2 : ¬ x < y := fun e => by have := UInt8.lt_iff_toNat_lt.1 e; omega
        have h3 : x ≠ y := fun e => by rw [e] at h; omega
        simp [h2, h3]
theorem r_cmp_eq (m n : Nat) : ∃ c, r_cmpMag (dd m) (dd n) = some ((c, ()), ()) ∧ (c < 0 ↔ m < n) ∧ (c = 0 ↔ m = n) := by
  unfold r_cmpMag
  rcases Nat.lt_trichotomy (dd m).length (dd n).length with h | h | h
  · have hlt : m < n := by
      rcases Nat.lt_or_ge m n with h' | h'
      · exact h'
      · have := dd_len_mono h'; omega
    refine ⟨-1, ?_, by omega, by omega⟩
    simp (disch := (first | omega | (simp only [maxN_eq, List.length_append, List.length_cons, List.length_nil, List.length_set, List.length_replicate, List.length_take, List.length_drop]; omega))) only [grd_tt, grd_and, grd_dec, grd_ne, cond_dt, cond_df, cond_et, cond_ef, cond_nt, cond_nf, w64, wu64, wu32, wu8, tm, td, bind_some', same_ee, same_er, same_re, same_rr, cond_t, cond_f, Bool.not_true, Bool.not_false]
  · have hs := bytesLess_dval (dd_D m) (dd_D n) h
    rw [dval_dd, dval_dd] at hs
    rcases Nat.lt_trichotomy m n with h' | h' | h'
    · refine ⟨-1, ?_, by omega, by omega⟩
      simp (disch := (first | omega | (simp only [maxN_eq, List.length_append, List.length_cons, List.length_nil, List.length_set, List.length_replicate, List.length_take, List.length_drop]; omega))) only [hs, decide_eq_true h', grd_tt, grd_and, grd_dec, grd_ne, cond_dt, cond_df, cond_et, cond_ef, cond_nt, cond_nf, w64, wu64, wu32, wu8, tm, td, bind_some', same_ee, same_er, same_re, same_rr, cond_t, cond_f, Bool.not_true, Bool.not_false]
    · subst h'
      refine ⟨0, ?_, by omega, by omega⟩
      simp (disch := (first | omega | (simp only [maxN_eq, List.length_append, List.length_cons, List.length_nil, List.length_set, List.length_replicate, List.length_take, List.length_drop]; omega))) only [hs, decide_eq_false (Nat.lt_irrefl m), beq_of rfl, grd_tt, grd_and, grd_dec, grd_ne, cond_dt, cond_df, cond_et, cond_ef, cond_nt, cond_nf, w64, wu64, wu32, wu8, tm, td, bind_some', same_ee, same_er, same_re, same_rr, cond_t, cond_f, Bool.not_true, Bool.not_false]
    · refine ⟨1, ?_, by omega, by omega⟩
      have hne : dd m ≠ dd n := fun e => by have := dd_inj e; omega
      simp (disch := (first | omega | (simp only [maxN_eq, List.length_append, List.length_cons, List.length_nil, List.length_set, List.length_replicate, List.length_take, List.length_drop]; omega))) only [hs, decide_eq_false (show ¬ m < n by omega), beq_ne hne, grd_tt, grd_and, grd_dec, grd_ne, cond_dt, cond_df, cond_et, cond_ef, cond_nt, cond_nf, w64, wu64, wu32, wu8, tm, td, bind_some', same_ee, same_er, same_re, same_rr, cond_t, cond_f, Bool.not_true, Bool.not_false]
  · have hlt : n < m := by
      rcases Nat.lt_or_ge n m with h' | h'
      · exact h'
      · have := dd_len_mono h'; omega
    have hne : dd m ≠ dd n := fun e => by have := dd_inj e; omega
    refine ⟨1, ?_, by omega, by omega⟩
    simp (disch := (first | omega | (simp only [maxN_eq, List.length_append, List.length_cons, List.length_nil, List.length_set, List.length_replicate, List.length_take, List.length_drop]; omega))) only [beq_ne hne, grd_tt, grd_and, grd_dec, grd_ne, cond_dt, cond_df, cond_et, cond_ef, cond_nt, cond_nf, w64, wu64, wu32, wu8, tm, td, bind_some', same_ee, same_er, same_re, same_rr, cond_t, cond_f, Bool.not_true, Bool.not_false]


def sfx (a : List UInt8) (i : Nat) : Nat := dval (a.drop (a.length - i))
theorem sfx_zero (a : List UInt8) : sfx a 0 = 0 := by unfold sfx; rw [Nat.sub_zero, List.drop_length]; rfl
theorem sfx_all {a : List UInt8} {i : Nat} (h : a.length ≤ i) : sfx a i = dval a := by unfold sfx; rw [Nat.sub_eq_zero_of_le h, List.drop_zero]
theorem sfx_succ {a : List UInt8} {i : Nat} (h : i < a.length) : sfx a (i + 1) = dig (a[a.length - 1 - i]'(by omega)) * 10 ^ i + sfx a i := by
  unfold sfx
  rw [show a.length - (i + 1) = a.length - 1 - i by omega, List.drop_eq_getElem_cons (by omega), dval_cons, List.length_drop, show a.length - 1 - i + 1 = a.length - i by omega, show a.length - (a.length - i) = i by omega]
theorem drop_set {α : Type} {l : List α} {i : Nat} (h : i < l.length) (c : α) : (l.set i c).drop i = c :: l.drop (i + 1) := by
  rw [List.drop_eq_getElem_cons (by simpa using h), List.getElem_set_self, List.drop_set_of_lt (by omega)]
def codes (s : List UInt8) : List Int := s.map fun b => (b.toNat : Int)
theorem codes_back (s : List UInt8) : (codes s).map (fun n => UInt8.ofNat n.toNat) = s := by
  unfold codes
  rw [List.map_map]
  conv => rhs; rw [← List.map_id s]
  apply List.map_congr_left
  intro b _
  simp
theorem code_of {k : Int} (h : 0 ≤ k ∧ k < 10) : ∃ c : UInt8, (c.toNat : Int) = 48 + k ∧ isD c ∧ (dig c : Int) = k := by
  obtain ⟨n, rfl⟩ : ∃ n : Nat, k = n := ⟨k.toNat, by omega⟩
  obtain ⟨h1, h2⟩ := dig_of (k := n) (by omega)
  refine ⟨UInt8.ofNat (48 + n), ?_, h2, by rw [h1]⟩
  have h3 := h2.1
  have h4 : dig (UInt8.ofNat (48 + n)) = (UInt8.ofNat (48 + n)).toNat - 48 := rfl
  omega
theorem AllD.cons {c : UInt8} {s : List UInt8} (h : isD c) (hs : AllD s) : AllD (c :: s) := fun x hx => (List.mem_cons.1 hx).elim (fun e => e ▸ h) (hs x)
theorem getD_u8 {s : List UInt8} {k : Nat} (h : k < s.length) : s.getD k 0 = s[k] := by rw [List.getD_eq_getElem?_getD, List.getElem?_eq_getElem h]; rfl
set_option maxHeartbeats 2000000 in
theorem r_add_eq (m n : Nat) (hm : (dd m).length ≤ 100000000) (hn : (dd n).length ≤ 100000000) : r_addMag (dd m) (dd n) = some ((dd (m + n), ()), ()) := by
  obtain ⟨a, ha⟩ : ∃ a, a = dd m := ⟨_, rfl⟩
  obtain ⟨b, hb⟩ : ∃ b, b = dd n := ⟨_, rfl⟩
  have hda : AllD a := ha ▸ dd_D m
  have hdb : AllD b := hb ▸ dd_D n
  rw [← ha, ← hb]
  rw [← ha] at hm
  rw [← hb] at hn
  obtain ⟨N, hN⟩ : ∃ N, N = max a.length b.length + 1 := ⟨_, rfl⟩
  have hmx := maxA_len a.length b.length
  have hw : IntKind.i64.wrap (maxA (a.length : Int) (b.length : Int) + 1) = (N : Int) := by rw [hmx, w64 (by omega)]; omega
  obtain ⟨r, hr, s, rfl, h1, h2, h3⟩ := loopO_ind (step := r_addMag_s5) (Q := fun r => ∃ s : List UInt8, r = (Ex.exit 0, (a, b, (N : Int), codes s, 0, (N : Int), ())) ∧ AllD s ∧ s.length = N ∧ dval s = dval a + dval b)
    (fun k x => ∃ (i : Nat) (out : List Int) (c : Int) (s : List UInt8), x = (a, b, (N : Int), out, c, (i : Int), ()) ∧ k + i = N ∧ out.length = N ∧ (0 ≤ c ∧ c ≤ 1) ∧ out.drop (N - i) = codes s ∧ AllD s ∧ s.length = i ∧ (dval s : Int) + c * 10 ^ i = (sfx a i : Int) + sfx b i) (by
      rintro k x ⟨i, out, c, s, rfl, hk, hol, hc, hds, hs, hsl, hv⟩
      by_cases hi : i < N
      · have hix : ((N : Int) - 1 - i).toNat = N - 1 - i := by omega
        have hax : ((a.length : Int) - 1 - i).toNat = a.length - 1 - i := by omega
        have hbx : ((b.length : Int) - 1 - i).toNat = b.length - 1 - i := by omega
        have go : ∀ v : Int, (0 ≤ v ∧ v < 20) → (v * 10 ^ i + ((sfx a i : Int) + sfx b i) = c * 10 ^ i + ((sfx a (i + 1) : Int) + sfx b (i + 1))) →
            r_addMag_s5 (a, b, (N : Int), out, c, (i : Int), ()) = some (Ex.normal, (a, b, (N : Int), out.set (N - 1 - i) (48 + v % 10), v / 10, (i : Int) + 1, ())) →
            ∃ m y, r_addMag_s5 (a, b, (N : Int), out, c, (i : Int), ()) = some (Ex.normal, y) ∧ m < k ∧ ∃ (i : Nat) (out : List Int) (c : Int) (s : List UInt8), y = (a, b, (N : Int), out, c, (i : Int), ()) ∧ m + i = N ∧ out.length = N ∧ (0 ≤ c ∧ c ≤ 1) ∧ out.drop (N - i) = codes s ∧ AllD s ∧ s.length = i ∧ (dval s : Int) + c * 10 ^ i = (sfx a i : Int) + sfx b i := by
          intro v hv1 hv2 hst
          obtain ⟨d, hd1, hd2, hd3⟩ := code_of (k := v % 10) (by omega)
          refine ⟨k - 1, _, hst, by omega, i + 1, _, _, d :: s, rfl, by omega, by simpa using hol, by omega, ?_, hs.cons hd2, by simp [hsl], ?_⟩
          · rw [show N - (i + 1) = N - 1 - i by omega, drop_set (by omega), show N - 1 - i + 1 = N - i by omega, hds, ← hd1]; rfl
          · rw [dval_cons, hsl, Int.natCast_add, Int.natCast_mul, hd3, Int.pow_succ]
            have := Int.emod_add_mul_ediv v 10
            push_cast
            grind
        by_cases hia : i < a.length
        · have hga := getD_u8 (s := a) (k := a.length - 1 - i) (by omega)
          have hdA := hda (a[a.length - 1 - i]'(by omega)) (List.getElem_mem _)
          have hsa := sfx_succ hia
          obtain ⟨A, hA⟩ : ∃ A, A = a[a.length - 1 - i]'(by omega) := ⟨_, rfl⟩
          rw [← hA] at hga hdA hsa
          have hA1 := hdA.1
          have hA2 := hdA.2
          have hAd : (dig A : Int) = (A.toNat : Int) - 48 := by unfold dig; omega
          by_cases hib : i < b.length
          · have hgb := getD_u8 (s := b) (k := b.length - 1 - i) (by omega)
            have hdB := hdb (b[b.length - 1 - i]'(by omega)) (List.getElem_mem _)
            have hsb := sfx_succ hib
            obtain ⟨B, hB⟩ : ∃ B, B = b[b.length - 1 - i]'(by omega) := ⟨_, rfl⟩
            rw [← hB] at hgb hdB hsb
            have hB1 := hdB.1
            have hB2 := hdB.2
            have hBd : (dig B : Int) = (B.toNat : Int) - 48 := by unfold dig; omega
            refine .inr (go (c + ((A.toNat : Int) - 48) + ((B.toNat : Int) - 48)) (by omega) (by rw [hsa, hsb]; push_cast; rw [hAd, hBd]; grind) ?_)
            simp (disch := (first | omega | (simp only [maxN_eq, List.length_append, List.length_cons, List.length_nil, List.length_set, List.length_replicate, List.length_take, List.length_drop]; omega))) only [r_addMag_s5, hix, hax, hbx, hga, hgb, grd_tt, grd_and, grd_dec, grd_ne, cond_dt, cond_df, cond_et, cond_ef, cond_nt, cond_nf, w64, wu64, wu32, wu8, tm, td, bind_some', same_ee, same_er, same_re, same_rr, cond_t, cond_f, Bool.not_true, Bool.not_false]
          · have hsb : sfx b (i + 1) = sfx b i := by rw [sfx_all (by omega), sfx_all (by omega)]
            refine .inr (go (c + ((A.toNat : Int) - 48)) (by omega) (by rw [hsa, hsb]; push_cast; rw [hAd]; grind) ?_)
            simp (disch := (first | omega | (simp only [maxN_eq, List.length_append, List.length_cons, List.length_nil, List.length_set, List.length_replicate, List.length_take, List.length_drop]; omega))) only [r_addMag_s5, hix, hax, hga, grd_tt, grd_and, grd_dec, grd_ne, cond_dt, cond_df, cond_et, cond_ef, cond_nt, cond_nf, w64, wu64, wu32, wu8, tm, td, bind_some', same_ee, same_er, same_re, same_rr, cond_t, cond_f, Bool.not_true, Bool.not_false]
        · have hsa : sfx a (i + 1) = sfx a i := by rw [sfx_all (by omega), sfx_all (by omega)]
          by_cases hib : i < b.length
          · have hgb := getD_u8 (s := b) (k := b.length - 1 - i) (by omega)
            have hdB := hdb (b[b.length - 1 - i]'(by omega)) (List.getElem_mem _)
            have hsb := sfx_succ hib
            obtain ⟨B, hB⟩ : ∃ B, B = b[b.length - 1 - i]'(by omega) := ⟨_, rfl⟩
            rw [← hB] at hgb hdB hsb
            have hB1 := hdB.1
            have hB2 := hdB.2
            have hBd : (dig B : Int) = (B.toNat : Int) - 48 := by unfold dig; omega
            refine .inr (go (c + ((B.toNat : Int) - 48)) (by omega) (by rw [hsa, hsb]; push_cast; rw [hBd]; grind) ?_)
            simp (disch := (first | omega | (simp only [maxN_eq, List.length_append, List.length_cons, List.length_nil, List.length_set, List.length_replicate, List.length_take, List.length_drop]; omega))) only [r_addMag_s5, hix, hbx, hgb, grd_tt, grd_and, grd_dec, grd_ne, cond_dt, cond_df, cond_et, cond_ef, cond_nt, cond_nf, w64, wu64, wu32, wu8, tm, td, bind_some', same_ee, same_er, same_re, same_rr, cond_t, cond_f, Bool.not_true, Bool.not_false]
          · have hsb : sfx b (i + 1) = sfx b i := by rw [sfx_all (by omega), sfx_all (by omega)]
            refine .inr (go c (by omega) (by rw [hsa, hsb]) ?_)
            simp (disch := (first | omega | (simp only [maxN_eq, List.length_append, List.length_cons, List.length_nil, List.length_set, List.length_replicate, List.length_take, List.length_drop]; omega))) only [r_addMag_s5, hix, grd_tt, grd_and, grd_dec, grd_ne, cond_dt, cond_df, cond_et, cond_ef, cond_nt, cond_nf, w64, wu64, wu32, wu8, tm, td, bind_some', same_ee, same_er, same_re, same_rr, cond_t, cond_f, Bool.not_true, Bool.not_false]
      · have hiN : i = N := by omega
        subst hiN
        rw [Nat.sub_self, List.drop_zero] at hds
        rw [sfx_all (by omega), sfx_all (by omega)] at hv
        have hla := dval_lt hda
        have hlb := dval_lt hdb
        have hp1 : 10 ^ a.length ≤ 10 ^ (max a.length b.length) := Nat.pow_le_pow_right (by decide) (by omega)
        have hp2 : 10 ^ b.length ≤ 10 ^ (max a.length b.length) := Nat.pow_le_pow_right (by decide) (by omega)
        have hpN : 10 ^ i = 10 * 10 ^ (max a.length b.length) := by rw [hN, Nat.pow_succ, Nat.mul_comm]
        have hc0 : c = 0 := by
          rcases (show c = 0 ∨ c = 1 by omega) with h | h
          · exact h
          · exfalso
            rw [h, show ((10 : Int) ^ i) = ((10 ^ i : Nat) : Int) by push_cast; rfl] at hv
            omega
        subst hc0
        refine .inl ⟨(Ex.exit 0, (a, b, (i : Int), codes s, 0, (i : Int), ())), ?_, by simp, s, rfl, hs, hsl, by omega⟩
        rw [← hds]
        simp (disch := (first | omega | (simp only [maxN_eq, List.length_append, List.length_cons, List.length_nil, List.length_set, List.length_replicate, List.length_take, List.length_drop]; omega))) only [r_addMag_s5, grd_tt, grd_and, grd_dec, grd_ne, cond_dt, cond_df, cond_et, cond_ef, cond_nt, cond_nf, w64, wu64, wu32, wu8, tm, td, bind_some', same_ee, same_er, same_re, same_rr, cond_t, cond_f, Bool.not_true, Bool.not_false]) N (a, b, (N : Int), List.replicate ((N : Int)).toNat 0, 0, 0, ()) ⟨0, _, 0, [], rfl, by omega, by simp, by omega, by simp [codes], by simp [AllD], rfl, by rw [sfx_zero, sfx_zero]; simp [dval]⟩
  have ht := trim_dval h1 (fun e => by rw [e] at h2; simp at h2; omega) (by omega)
  rw [h3] at ht
  have hva : dval a = m := by rw [ha, dval_dd]
  have hvb : dval b = n := by rw [hb, dval_dd]
  rw [hva, hvb] at ht
  unfold r_addMag
  simp only [hw]
  rw [hr]
  simp (disch := (first | omega | (simp only [maxN_eq, List.length_append, List.length_cons, List.length_nil, List.length_set, List.length_replicate, List.length_take, List.length_drop]; omega))) only [codes_back, ht, grd_tt, grd_and, grd_dec, grd_ne, cond_dt, cond_df, cond_et, cond_ef, cond_nt, cond_nf, w64, wu64, wu32, wu8, tm, td, bind_some', same_ee, same_er, same_re, same_rr, cond_t, cond_f, Bool.not_true, Bool.not_false]
end Go.AM.Num
end
section
set_option linter.unusedSimpArgs false
set_option linter.unusedVariables false
namespace Go.AM.Num
set_option maxHeartbeats 2000000 in
theorem r_sub_eq (m n : Nat) (hm : (dd m).length ≤ 100000000) (hle : n ≤ m) : r_subMag (dd m) (dd n) = some ((dd (m - n), ()), ()) := by
  obtain ⟨a, ha⟩ : ∃ a, a = dd m := ⟨_, rfl⟩
  obtain ⟨b, hb⟩ : ∃ b, b = dd n := ⟨_, rfl⟩
  have hda : AllD a := ha ▸ dd_D m
  have hdb : AllD b := hb ▸ dd_D n
  have hbl : b.length ≤ a.length := by rw [ha, hb]; exact dd_len_mono hle
  have hane : a ≠ [] := ha ▸ dd_ne m
  rw [← ha, ← hb]
  rw [← ha] at hm
  have hva : dval a = m := by rw [ha, dval_dd]
  have hvb : dval b = n := by rw [hb, dval_dd]
  obtain ⟨N, hN⟩ : ∃ N, N = a.length := ⟨_, rfl⟩
  obtain ⟨r, hr, s, rfl, h1, h2, h3⟩ := loopO_ind (step := r_subMag_s4) (Q := fun r => ∃ s : List UInt8, r = (Ex.exit 0, (a, b, codes s, 0, (N : Int), ())) ∧ AllD s ∧ s.length = N ∧ dval s = m - n)
    (fun k x => ∃ (i : Nat) (out : List Int) (c : Int) (s : List UInt8), x = (a, b, out, c, (i : Int), ()) ∧ k + i = N ∧ out.length = N ∧ (0 ≤ c ∧ c ≤ 1) ∧ out.drop (N - i) = codes s ∧ AllD s ∧ s.length = i ∧ (dval s : Int) + sfx b i = (sfx a i : Int) + c * 10 ^ i) (by
      rintro k x ⟨i, out, c, s, rfl, hk, hol, hc, hds, hs, hsl, hv⟩
      by_cases hi : i < N
      · have hax : ((a.length : Int) - 1 - i).toNat = a.length - 1 - i := by omega
        have hbx : ((b.length : Int) - 1 - i).toNat = b.length - 1 - i := by omega
        have go : ∀ v c' : Int, (0 ≤ v ∧ v < 10) → (0 ≤ c' ∧ c' ≤ 1) → ((sfx a (i + 1) : Int) + c' * (10 ^ i * 10) - sfx b (i + 1) = v * 10 ^ i + ((sfx a i : Int) + c * 10 ^ i - sfx b i)) →
            r_subMag_s4 (a, b, out, c, (i : Int), ()) = some (Ex.normal, (a, b, out.set (a.length - 1 - i) (48 + v), c', (i : Int) + 1, ())) →
            ∃ m y, r_subMag_s4 (a, b, out, c, (i : Int), ()) = some (Ex.normal, y) ∧ m < k ∧ ∃ (i : Nat) (out : List Int) (c : Int) (s : List UInt8), y = (a, b, out, c, (i : Int), ()) ∧ m + i = N ∧ out.length = N ∧ (0 ≤ c ∧ c ≤ 1) ∧ out.drop (N - i) = codes s ∧ AllD s ∧ s.length = i ∧ (dval s : Int) + sfx b i = (sfx a i : Int) + c * 10 ^ i := by
          intro v c' hv1 hc' hv2 hst
          obtain ⟨d, hd1, hd2, hd3⟩ := code_of (k := v) (by omega)
          refine ⟨k - 1, _, hst, by omega, i + 1, _, _, d :: s, rfl, by omega, by simpa using hol, by omega, ?_, hs.cons hd2, by simp [hsl], ?_⟩
          · rw [show N - (i + 1) = a.length - 1 - i by omega, drop_set (by omega), show a.length - 1 - i + 1 = N - i by omega, hds, ← hd1]; rfl
          · rw [dval_cons, hsl, Int.natCast_add, Int.natCast_mul, hd3, Int.pow_succ]
            push_cast
            grind
        have hia : i < a.length := by omega
        have hga := getD_u8 (s := a) (k := a.length - 1 - i) (by omega)
        have hdA := hda (a[a.length - 1 - i]'(by omega)) (List.getElem_mem _)
        have hsa := sfx_succ hia
        obtain ⟨A, hA⟩ : ∃ A, A = a[a.length - 1 - i]'(by omega) := ⟨_, rfl⟩
        rw [← hA] at hga hdA hsa
        have hA1 := hdA.1
        have hA2 := hdA.2
        have hAd : (dig A : Int) = (A.toNat : Int) - 48 := by unfold dig; omega
        by_cases hib : i < b.length
        · have hgb := getD_u8 (s := b) (k := b.length - 1 - i) (by omega)
          have hdB := hdb (b[b.length - 1 - i]'(by omega)) (List.getElem_mem _)
          have hsb := sfx_succ hib
          obtain ⟨B, hB⟩ : ∃ B, B = b[b.length - 1 - i]'(by omega) := ⟨_, rfl⟩
          rw [← hB] at hgb hdB hsb
          have hB1 := hdB.1
          have hB2 := hdB.2
          have hBd : (dig B : Int) = (B.toNat : Int) - 48 := by unfold dig; omega
          by_cases hneg : (A.toNat : Int) - 48 - c - ((B.toNat : Int) - 48) < 0
          · refine .inr (go ((A.toNat : Int) - 48 - c - ((B.toNat : Int) - 48) + 10) 1 (by omega) (by omega) (by rw [hsa, hsb]; push_cast; rw [hAd, hBd]; grind) ?_)
            simp (disch := (first | omega | (simp only [maxN_eq, List.length_append, List.length_cons, List.length_nil, List.length_set, List.length_replicate, List.length_take, List.length_drop]; omega))) only [r_subMag_s4, hax, hbx, hga, hgb, grd_tt, grd_and, grd_dec, grd_ne, cond_dt, cond_df, cond_et, cond_ef, cond_nt, cond_nf, w64, wu64, wu32, wu8, tm, td, bind_some', same_ee, same_er, same_re, same_rr, cond_t, cond_f, Bool.not_true, Bool.not_false]
          · refine .inr (go ((A.toNat : Int) - 48 - c - ((B.toNat : Int) - 48)) 0 (by omega) (by omega) (by rw [hsa, hsb]; push_cast; rw [hAd, hBd]; grind) ?_)
            simp (disch := (first | omega | (simp only [maxN_eq, List.length_append, List.length_cons, List.length_nil, List.length_set, List.length_replicate, List.length_take, List.length_drop]; omega))) only [r_subMag_s4, hax, hbx, hga, hgb, grd_tt, grd_and, grd_dec, grd_ne, cond_dt, cond_df, cond_et, cond_ef, cond_nt, cond_nf, w64, wu64, wu32, wu8, tm, td, bind_some', same_ee, same_er, same_re, same_rr, cond_t, cond_f, Bool.not_true, Bool.not_false]
        · have hsb : sfx b (i + 1) = sfx b i := by rw [sfx_all (by omega), sfx_all (by omega)]
          by_cases hneg : (A.toNat : Int) - 48 - c < 0
          · refine .inr (go ((A.toNat : Int) - 48 - c + 10) 1 (by omega) (by omega) (by rw [hsa, hsb]; push_cast; rw [hAd]; grind) ?_)
            simp (disch := (first | omega | (simp only [maxN_eq, List.length_append, List.length_cons, List.length_nil, List.length_set, List.length_replicate, List.length_take, List.length_drop]; omega))) only [r_subMag_s4, hax, hga, grd_tt, grd_and, grd_dec, grd_ne, cond_dt, cond_df, cond_et, cond_ef, cond_nt, cond_nf, w64, wu64, wu32, wu8, tm, td, bind_some', same_ee, same_er, same_re, same_rr, cond_t, cond_f, Bool.not_true, Bool.not_false]
          · refine .inr (go ((A.toNat : Int) - 48 - c) 0 (by omega) (by omega) (by rw [hsa, hsb]; push_cast; rw [hAd]; grind) ?_)
            simp (disch := (first | omega | (simp only [maxN_eq, List.length_append, List.length_cons, List.length_nil, List.length_set, List.length_replicate, List.length_take, List.length_drop]; omega))) only [r_subMag_s4, hax, hga, grd_tt, grd_and, grd_dec, grd_ne, cond_dt, cond_df, cond_et, cond_ef, cond_nt, cond_nf, w64, wu64, wu32, wu8, tm, td, bind_some', same_ee, same_er, same_re, same_rr, cond_t, cond_f, Bool.not_true, Bool.not_false]
      · have hiN : i = N := by omega
        subst hiN
        rw [Nat.sub_self, List.drop_zero] at hds
        rw [sfx_all (by omega), sfx_all (by omega), hva, hvb] at hv
        have hls := dval_lt hs
        rw [hsl] at hls
        have hc0 : c = 0 := by
          rcases (show c = 0 ∨ c = 1 by omega) with h | h
          · exact h
          · exfalso
            rw [h, show ((10 : Int) ^ i) = ((10 ^ i : Nat) : Int) by push_cast; rfl] at hv
            omega
        subst hc0
        refine .inl ⟨(Ex.exit 0, (a, b, codes s, 0, (i : Int), ())), ?_, by simp, s, rfl, hs, hsl, by omega⟩
        rw [← hds]
        simp (disch := (first | omega | (simp only [maxN_eq, List.length_append, List.length_cons, List.length_nil, List.length_set, List.length_replicate, List.length_take, List.length_drop]; omega))) only [r_subMag_s4, grd_tt, grd_and, grd_dec, grd_ne, cond_dt, cond_df, cond_et, cond_ef, cond_nt, cond_nf, w64, wu64, wu32, wu8, tm, td, bind_some', same_ee, same_er, same_re, same_rr, cond_t, cond_f, Bool.not_true, Bool.not_false]) N (a, b, List.replicate ((a.length : Int)).toNat 0, 0, 0, ()) ⟨0, _, 0, [], rfl, by omega, by simp; omega, by omega, by simp [codes]; omega, by simp [AllD], rfl, by rw [sfx_zero, sfx_zero]; simp [dval]⟩
  have hapos : 0 < a.length := List.length_pos_iff.2 hane
  have ht := trim_dval h1 (fun e => by rw [e] at h2; simp at h2; omega) (by omega)
  rw [h3] at ht
  unfold r_subMag
  rw [hr]
  simp (disch := (first | omega | (simp only [maxN_eq, List.length_append, List.length_cons, List.length_nil, List.length_set, List.length_replicate, List.length_take, List.length_drop]; omega))) only [codes_back, ht, grd_tt, grd_and, grd_dec, grd_ne, cond_dt, cond_df, cond_et, cond_ef, cond_nt, cond_nf, w64, wu64, wu32, wu8, tm, td, bind_some', same_ee, same_er, same_re, same_rr, cond_t, cond_f, Bool.not_true, Bool.not_false]


def iv (l : List Int) : Int := l.foldl (fun v x => 10 * v + x) 0
theorem iv_foldl (l : List Int) (v : Int) : l.foldl (fun v x => 10 * v + x) v = v * 10 ^ l.length + iv l := by
  induction l generalizing v with
  | nil => simp [iv]
  | cons c s ih =>
    simp only [List.foldl_cons, iv, List.length_cons, Int.pow_succ]
    rw [ih (10 * v + c), ih (10 * 0 + c)]
    grind
theorem iv_cons (x : Int) (l : List Int) : iv (x :: l) = x * 10 ^ l.length + iv l := by
  show (x :: l).foldl (fun v x => 10 * v + x) 0 = _
  rw [List.foldl_cons, iv_foldl]; simp
theorem iv_set {l : List Int} {k : Nat} (h : k < l.length) (x : Int) : iv (l.set k x) = iv l + (x - l.getD k 0) * 10 ^ (l.length - 1 - k) := by
  induction l generalizing k with
  | nil => simp at h
  | cons y l ih =>
    cases k with
    | zero =>
      simp only [List.set_cons_zero, iv_cons, List.getD_cons_zero, List.length_cons]
      rw [show l.length + 1 - 1 - 0 = l.length by omega]
      grind
    | succ k =>
      simp only [List.set_cons_succ, iv_cons, List.getD_cons_succ, List.length_cons, List.length_set]
      rw [ih (by simpa using h), show l.length + 1 - 1 - (k + 1) = l.length - 1 - k by omega]
      omega
theorem iv_zeros (n : Nat) : iv (List.replicate n 0) = 0 := by
  induction n with
  | zero => rfl
  | succ n ih => rw [List.replicate_succ, iv_cons, ih]; simp

def pfx (a : List UInt8) (i : Nat) : Nat := dval (a.take i)
theorem pfx_succ {a : List UInt8} {i : Nat} (h : i < a.length) : pfx a (i + 1) = 10 * pfx a i + dig a[i] := by
  unfold pfx
  rw [List.take_succ_eq_append_getElem h, dval_snoc]
def Bd (l : List Int) (B : Int) : Prop := ∀ x ∈ l, 0 ≤ x ∧ x ≤ B
theorem Bd.at {l : List Int} {B : Int} (h : Bd l B) (hB : 0 ≤ B) (k : Nat) : 0 ≤ l.getD k 0 ∧ l.getD k 0 ≤ B := by
  by_cases hk : k < l.length
  · rw [getD_lt hk]; exact h _ (List.getElem_mem hk)
  · rw [getD_ge (by omega)]; omega
theorem Bd.set {l : List Int} {B B' : Int} (h : Bd l B) (hB : B ≤ B') {k : Nat} {x : Int} (hx : 0 ≤ x ∧ x ≤ B') : Bd (l.set k x) B' := by
  intro y hy
  rcases List.mem_or_eq_of_mem_set hy with hy | rfl
  · have := h y hy; omega
  · exact hx
theorem r_mul_s6_eq {a b : List UInt8} {out0 : List Int} {i : Nat} {B : Int} (hda : AllD a) (hdb : AllD b) (hi : i < a.length) (hol : out0.length = a.length + b.length) (hbl : b.length ≤ 100000000) (hal : a.length ≤ 100000000)
    (hB : 0 ≤ B ∧ B ≤ 1000000000000000000) (hb0 : Bd out0 B) :
    ∃ out, loopO r_mulMag_s6 (a, b, out0, (i : Int), 0, ()) = some (Ex.exit 2, (a, b, out, (i : Int), (b.length : Int), ())) ∧ out.length = out0.length ∧ Bd out (B + 81 * b.length) ∧
      iv out = iv out0 + (dig a[i] : Int) * 10 ^ (a.length - 1 - i) * dval b := by
  have hA := hda a[i] (List.getElem_mem hi)
  obtain ⟨A, hAe⟩ : ∃ A, A = a[i] := ⟨_, rfl⟩
  rw [← hAe] at hA ⊢
  have hga : a.getD i 0 = A := by rw [getD_u8 hi, hAe]
  have hA1 := hA.1
  have hA2 := hA.2
  have hAd : (dig A : Int) = (A.toNat : Int) - 48 := by unfold dig; omega
  obtain ⟨r, hr, out, rfl, h1, h2, h3⟩ := loopO_ind (step := r_mulMag_s6) (Q := fun r => ∃ out, r = (Ex.exit 2, (a, b, out, (i : Int), (b.length : Int), ())) ∧ out.length = out0.length ∧ Bd out (B + 81 * b.length) ∧
      iv out = iv out0 + (dig A : Int) * 10 ^ (a.length - 1 - i) * dval b)
    (fun k x => ∃ (j : Nat) (out : List Int), k + j = b.length ∧ x = (a, b, out, (i : Int), (j : Int), ()) ∧ out.length = out0.length ∧ Bd out (B + 81 * j) ∧
      iv out = iv out0 + (dig A : Int) * 10 ^ (a.length - 1 - i) * ((pfx b j : Int) * 10 ^ (b.length - j))) (by
      rintro k x ⟨j, out, hk, rfl, h1, h2, h3⟩
      by_cases hj : j < b.length
      · have hgb := getD_u8 hj
        have hBd := hdb b[j] (List.getElem_mem hj)
        have hp := pfx_succ hj
        obtain ⟨C, hC⟩ : ∃ C, C = b[j] := ⟨_, rfl⟩
        rw [← hC] at hgb hBd hp
        have hC1 := hBd.1
        have hC2 := hBd.2
        have hCd : (dig C : Int) = (C.toNat : Int) - 48 := by unfold dig; omega
        have e1 : (i : Int).toNat = i := by omega
        have e2 : (j : Int).toNat = j := by omega
        have e3 : ((i : Int) + j + 1).toNat = i + j + 1 := by omega
        have hz := h2.at (by omega) (i + j + 1)
        obtain ⟨P, hP⟩ : ∃ P, P = ((A.toNat : Int) - 48) * ((C.toNat : Int) - 48) := ⟨_, rfl⟩
        have hP0 : 0 ≤ P := by rw [hP]; exact Int.mul_nonneg (by omega) (by omega)
        have hP1 : P ≤ 81 := by
          rw [hP]
          have : ((A.toNat : Int) - 48) * ((C.toNat : Int) - 48) ≤ 9 * ((C.toNat : Int) - 48) := Int.mul_le_mul_of_nonneg_right (by omega) (by omega)
          omega
        refine .inr ⟨k - 1, (a, b, out.set (i + j + 1) (out.getD (i + j + 1) 0 + P), (i : Int), ((j + 1 : Nat) : Int), ()), ?_, by omega, j + 1, _, by omega, rfl, by simpa using h1, h2.set (by omega) (by omega), ?_⟩
        · rw [hP]
          rw [hP] at hP0 hP1
          simp (disch := (first | omega | (simp only [maxN_eq, List.length_append, List.length_cons, List.length_nil, List.length_set, List.length_replicate, List.length_take, List.length_drop]; omega))) only [r_mulMag_s6, e1, e2, e3, hga, hgb, grd_tt, grd_and, grd_dec, grd_ne, cond_dt, cond_df, cond_et, cond_ef, cond_nt, cond_nf, w64, wu64, wu32, wu8, tm, td, bind_some', same_ee, same_er, same_re, same_rr, cond_t, cond_f, Bool.not_true, Bool.not_false]
          rfl
        · rw [iv_set (by omega), h3, hp]
          have ex : out.length - 1 - (i + j + 1) = (a.length - 1 - i) + (b.length - (j + 1)) := by omega
          have ey : b.length - j = (b.length - (j + 1)) + 1 := by omega
          rw [ex, ey, Int.pow_add, Int.pow_succ, hP, ← hAd, ← hCd]
          push_cast
          grind
      · have hjb : j = b.length := by omega
        subst hjb
        refine .inl ⟨(Ex.exit 2, (a, b, out, (i : Int), (b.length : Int), ())), ?_, by simp, out, rfl, h1, h2, ?_⟩
        · simp (disch := (first | omega | (simp only [maxN_eq, List.length_append, List.length_cons, List.length_nil, List.length_set, List.length_replicate, List.length_take, List.length_drop]; omega))) only [r_mulMag_s6, grd_tt, grd_and, grd_dec, grd_ne, cond_dt, cond_df, cond_et, cond_ef, cond_nt, cond_nf, w64, wu64, wu32, wu8, tm, td, bind_some', same_ee, same_er, same_re, same_rr, cond_t, cond_f, Bool.not_true, Bool.not_false]
        · rw [h3]; unfold pfx; rw [List.take_length, Nat.sub_self]; simp) b.length _ ⟨0, out0, by omega, rfl, rfl, by simpa using hb0, by unfold pfx; simp [dval]⟩
  exact ⟨out, hr, h1, h2, h3⟩
set_option maxHeartbeats 1000000 in
theorem r_mul_eq (m n : Nat) (hm : (dd m).length ≤ 10000000) (hn : (dd n).length ≤ 10000000) : r_mulMag (dd m) (dd n) = some ((dd (m * n), ()), ()) := by
  obtain ⟨a, ha⟩ : ∃ a, a = dd m := ⟨_, rfl⟩
  obtain ⟨b, hb⟩ : ∃ b, b = dd n := ⟨_, rfl⟩
  have hda : AllD a := ha ▸ dd_D m
  have hdb : AllD b := hb ▸ dd_D n
  have hapos : 0 < a.length := by rw [ha]; exact dd_len_pos m
  rw [← ha, ← hb]
  rw [← ha] at hm
  rw [← hb] at hn
  have hva : dval a = m := by rw [ha, dval_dd]
  have hvb : dval b = n := by rw [hb, dval_dd]
  obtain ⟨r, hr, out, rfl, h1, h2, h3⟩ := loopO_ind (step := r_mulMag_s3) (Q := fun r => ∃ out, r = (Ex.exit 0, (a, b, out, (a.length : Int), ())) ∧ out.length = a.length + b.length ∧ Bd out (81 * 100000000000000) ∧ iv out = (dval a : Int) * dval b)
    (fun k x => ∃ (i : Nat) (out : List Int), k + i = a.length ∧ x = (a, b, out, (i : Int), ()) ∧ out.length = a.length + b.length ∧ Bd out (81 * ((i * b.length : Nat) : Int)) ∧ iv out = (pfx a i : Int) * 10 ^ (a.length - i) * dval b) (by
      rintro k x ⟨i, out, hk, rfl, h1, h2, h3⟩
      have hib : i * b.length ≤ a.length * b.length := Nat.mul_le_mul_right _ (by omega)
      have hab : a.length * b.length ≤ 10000000 * b.length := Nat.mul_le_mul_right _ hm
      by_cases hi : i < a.length
      · obtain ⟨o2, hin, g1, g2, g3⟩ := r_mul_s6_eq (B := 81 * ((i * b.length : Nat) : Int)) hda hdb hi h1 (by omega) (by omega) (by omega) h2
        have hp := pfx_succ hi
        refine .inr ⟨k - 1, (a, b, o2, ((i + 1 : Nat) : Int), ()), ?_, by omega, i + 1, o2, by omega, rfl, by omega, ?_, ?_⟩
        · simp (disch := (first | omega | (simp only [maxN_eq, List.length_append, List.length_cons, List.length_nil, List.length_set, List.length_replicate, List.length_take, List.length_drop]; omega))) only [r_mulMag_s3, hin, grd_tt, grd_and, grd_dec, grd_ne, cond_dt, cond_df, cond_et, cond_ef, cond_nt, cond_nf, w64, wu64, wu32, wu8, tm, td, bind_some', same_ee, same_er, same_re, same_rr, cond_t, cond_f, Bool.not_true, Bool.not_false]
          rfl
        · intro y hy
          have := g2 y hy
          rw [Nat.add_mul]
          omega
        · rw [g3, h3, hp, show a.length - i = (a.length - 1 - i) + 1 by omega, show a.length - (i + 1) = a.length - 1 - i by omega, Int.pow_succ]
          push_cast
          grind
      · have hia : i = a.length := by omega
        subst hia
        refine .inl ⟨(Ex.exit 0, (a, b, out, (a.length : Int), ())), ?_, by simp, out, rfl, h1, ?_, ?_⟩
        · simp (disch := (first | omega | (simp only [maxN_eq, List.length_append, List.length_cons, List.length_nil, List.length_set, List.length_replicate, List.length_take, List.length_drop]; omega))) only [r_mulMag_s3, grd_tt, grd_and, grd_dec, grd_ne, cond_dt, cond_df, cond_et, cond_ef, cond_nt, cond_nf, w64, wu64, wu32, wu8, tm, td, bind_some', same_ee, same_er, same_re, same_rr, cond_t, cond_f, Bool.not_true, Bool.not_false]
        · intro y hy; have := h2 y hy; omega
        · rw [h3]; unfold pfx; rw [List.take_length, Nat.sub_self]; simp) a.length (a, b, List.replicate ((((a.length : Int) + b.length)).toNat) 0, 0, ()) ⟨0, _, by omega, rfl, by simp; omega, by intro y hy; rw [List.eq_of_mem_replicate hy]; simp, by rw [iv_zeros]; unfold pfx; simp [dval]⟩
  obtain ⟨N, hN⟩ : ∃ N, N = out.length := ⟨_, rfl⟩
  obtain ⟨r2, hr2, s, rfl, g1, g2, g3⟩ := loopO_ind (step := r_mulMag_s12) (Q := fun r => ∃ s : List UInt8, r = (Ex.exit 4, (out, codes s, 0, -1, ())) ∧ AllD s ∧ s.length = N ∧ dval s = m * n)
    (fun k x => ∃ (o : List Int) (c : Int) (s : List UInt8), x = (out, o, c, (k : Int) - 1, ()) ∧ k ≤ N ∧ o.length = N ∧ (0 ≤ c ∧ c ≤ 81 * 100000000000000) ∧ o.drop k = codes s ∧ AllD s ∧ s.length = N - k ∧ (dval s : Int) + c * 10 ^ (N - k) = iv (out.drop k)) (by
      rintro k x ⟨o, c, s, rfl, hk, hol, hc, hds, hs, hsl, hv⟩
      by_cases h0 : k = 0
      · subst h0
        rw [List.drop_zero] at hds hv
        rw [Nat.sub_zero] at hv hsl
        rw [h3] at hv
        have hla := dval_lt hda
        have hlb := dval_lt hdb
        have hprod : dval a * dval b < 10 ^ N := by
          rw [hN, h1, Nat.pow_add]
          exact Nat.mul_lt_mul'' hla hlb
        have hc0 : c = 0 := by
          rcases Int.lt_or_eq_of_le hc.1 with h | h
          · exfalso
            have e1 : 1 * (10 : Int) ^ N ≤ c * 10 ^ N := Int.mul_le_mul_of_nonneg_right (by omega) (by have : (0 : Int) < 10 ^ N := Int.pow_pos (by decide); omega)
            rw [show ((10 : Int) ^ N) = ((10 ^ N : Nat) : Int) by push_cast; rfl] at e1 hv
            rw [← Int.natCast_mul] at hv
            omega
          · exact h.symm
        subst hc0
        refine .inl ⟨(Ex.exit 4, (out, codes s, 0, -1, ())), ?_, by simp, s, rfl, hs, hsl, ?_⟩
        · rw [← hds]
          simp (disch := (first | omega | (simp only [maxN_eq, List.length_append, List.length_cons, List.length_nil, List.length_set, List.length_replicate, List.length_take, List.length_drop]; omega))) only [r_mulMag_s12, grd_tt, grd_and, grd_dec, grd_ne, cond_dt, cond_df, cond_et, cond_ef, cond_nt, cond_nf, w64, wu64, wu32, wu8, tm, td, bind_some', same_ee, same_er, same_re, same_rr, cond_t, cond_f, Bool.not_true, Bool.not_false]
          rfl
        · rw [Int.zero_mul, Int.add_zero, ← Int.natCast_mul, hva, hvb] at hv; omega
      · have e : ((k : Int) - 1).toNat = k - 1 := by omega
        have hz := h2.at (by omega) (k - 1)
        obtain ⟨v, hvv⟩ : ∃ v, v = out.getD (k - 1) 0 + c := ⟨_, rfl⟩
        obtain ⟨d, hd1, hd2, hd3⟩ := code_of (k := v % 10) (by omega)
        refine .inr ⟨k - 1, (out, o.set (k - 1) (48 + v % 10), v / 10, (k : Int) - 1 - 1, ()), ?_, by omega, o.set (k - 1) (48 + v % 10), v / 10, d :: s, ?_, by omega, by simpa using hol, by omega, ?_, hs.cons hd2, by simp [hsl]; omega, ?_⟩
        · rw [hvv]
          simp (disch := (first | omega | (simp only [maxN_eq, List.length_append, List.length_cons, List.length_nil, List.length_set, List.length_replicate, List.length_take, List.length_drop]; omega))) only [r_mulMag_s12, e, grd_tt, grd_and, grd_dec, grd_ne, cond_dt, cond_df, cond_et, cond_ef, cond_nt, cond_nf, w64, wu64, wu32, wu8, tm, td, bind_some', same_ee, same_er, same_re, same_rr, cond_t, cond_f, Bool.not_true, Bool.not_false]
        · rw [show (k : Int) - 1 - 1 = ((k - 1 : Nat) : Int) - 1 by omega]
        · rw [drop_set (by omega), show k - 1 + 1 = k by omega, hds, ← hd1]; rfl
        · rw [dval_cons, hsl, Int.natCast_add, Int.natCast_mul, hd3, List.drop_eq_getElem_cons (show k - 1 < out.length by omega), iv_cons, ← getD_lt (by omega), show k - 1 + 1 = k by omega, ← hv, List.length_drop, show N - (k - 1) = (N - k) + 1 by omega, ← hN, Int.pow_succ]
          have := Int.emod_add_mul_ediv v 10
          push_cast
          grind) N (out, List.replicate ((out.length : Int)).toNat 0, 0, (out.length : Int) - 1, ()) ⟨_, 0, [], by rw [hN], Nat.le_refl _, by simp; omega, by omega, by rw [List.drop_of_length_le (by simp; omega)]; rfl, by simp [AllD], by simp, by rw [List.drop_of_length_le (by omega)]; simp [dval, iv]⟩
  have ht := trim_dval g1 (fun e => by rw [e] at g2; simp at g2; omega) (by omega)
  rw [g3] at ht
  have hlen : out.length = a.length + b.length := h1
  have hw : IntKind.i64.wrap ((out.length : Int) - 1) = (out.length : Int) - 1 := w64 (by omega)
  have hw2 : IntKind.i64.wrap ((a.length : Int) + b.length) = (a.length : Int) + b.length := w64 (by omega)
  unfold r_mulMag
  simp only [hw2]
  rw [hr]
  simp only [bind_some', same_ee, cond_t, hw]
  rw [hr2]
  simp (disch := (first | omega | (simp only [maxN_eq, List.length_append, List.length_cons, List.length_nil, List.length_set, List.length_replicate, List.length_take, List.length_drop]; omega))) only [codes_back, ht, grd_tt, grd_and, grd_dec, grd_ne, cond_dt, cond_df, cond_et, cond_ef, cond_nt, cond_nf, w64, wu64, wu32, wu8, tm, td, bind_some', same_ee, same_er, same_re, same_rr, cond_t, cond_f, Bool.not_true, Bool.not_false]
end Go.AM.Num
end
section
set_option linter.unusedSimpArgs false
set_option linter.unusedVariables false
namespace Go.AM.Num

theorem r_div_s8_eq (a : List UInt8) (q : List Int) (i : Int) (R B : Nat) (hB : B ≠ 0) (hR : (dd R).length ≤ 100000000) (hlt : R < 10 * B) :
    loopO r_divMag_s8 (a, dd B, q, dd R, i, 48, ()) = some (Ex.exit 2, (a, dd B, q, dd (R % B), i, 48 + ((R / B : Nat) : Int), ())) := by
  obtain ⟨r, hr, rfl⟩ := loopO_ind (step := r_divMag_s8) (Q := fun r => r = (Ex.exit 2, (a, dd B, q, dd (R % B), i, 48 + ((R / B : Nat) : Int), ())))
    (fun k x => ∃ S d : Nat, x = (a, dd B, q, dd S, i, 48 + (d : Int), ()) ∧ k = S ∧ S + d * B = R) (by
      rintro k x ⟨S, d, rfl, rfl, h⟩
      obtain ⟨c, hc, hc1, hc2⟩ := r_cmp_eq k B
      by_cases hlt' : k < B
      · have hneg := hc1.2 hlt'
        have hq : R / B = d := by rw [← h, Nat.add_mul_div_right _ _ (by omega), Nat.div_eq_of_lt hlt']; omega
        have hm : R % B = k := by rw [← h, Nat.add_mul_mod_self_right, Nat.mod_eq_of_lt hlt']
        refine .inl ⟨(Ex.exit 2, (a, dd B, q, dd k, i, 48 + (d : Int), ())), ?_, by simp, by rw [hq, hm]⟩
        simp (disch := (first | omega | (simp only [maxN_eq, List.length_append, List.length_cons, List.length_nil, List.length_set, List.length_replicate, List.length_take, List.length_drop]; omega))) only [r_divMag_s8, hc, grd_tt, grd_and, grd_dec, grd_ne, cond_dt, cond_df, cond_et, cond_ef, cond_nt, cond_nf, w64, wu64, wu32, wu8, tm, td, bind_some', same_ee, same_er, same_re, same_rr, cond_t, cond_f, Bool.not_true, Bool.not_false]
      · have hge : c ≥ 0 := by
          rcases Int.lt_or_le c 0 with h' | h'
          · exact absurd (hc1.1 h') hlt'
          · exact h'
        have hkl : (dd k).length ≤ 100000000 := Nat.le_trans (dd_len_mono (by rw [← h]; omega)) hR
        have hs := r_sub_eq k B hkl (by omega)
        have hd9 : d < 9 := by
          have : (d + 1) * B ≤ R := by rw [Nat.add_mul]; omega
          have h2 : (d + 1) * B < 10 * B := by omega
          have := Nat.lt_of_mul_lt_mul_right h2
          omega
        refine .inr ⟨k - B, (a, dd B, q, dd (k - B), i, 48 + ((d + 1 : Nat) : Int), ()), ?_, by omega, k - B, d + 1, rfl, rfl, by rw [Nat.add_mul]; omega⟩
        simp (disch := (first | omega | (simp only [maxN_eq, List.length_append, List.length_cons, List.length_nil, List.length_set, List.length_replicate, List.length_take, List.length_drop]; omega))) only [r_divMag_s8, hc, hs, grd_tt, grd_and, grd_dec, grd_ne, cond_dt, cond_df, cond_et, cond_ef, cond_nt, cond_nf, w64, wu64, wu32, wu8, tm, td, bind_some', same_ee, same_er, same_re, same_rr, cond_t, cond_f, Bool.not_true, Bool.not_false]
        congr 7) R (a, dd B, q, dd R, i, 48, ()) ⟨R, 0, by simp, rfl, by omega⟩
  exact hr
theorem take_set {α : Type} {l : List α} {i : Nat} (h : i < l.length) (c : α) : (l.set i c).take (i + 1) = l.take i ++ [c] := by
  rw [List.take_succ_eq_append_getElem (by simpa using h), List.getElem_set_self, List.take_set_of_le (by omega)]
theorem codes_snoc (s : List UInt8) (d : UInt8) : codes (s ++ [d]) = codes s ++ [(d.toNat : Int)] := by simp [codes]
set_option maxHeartbeats 1000000 in
theorem r_div_eq (m n : Nat) (hm : (dd m).length ≤ 10000000) (hn : (dd n).length ≤ 10000000) (h0 : n ≠ 0) : r_divMag (dd m) (dd n) = some ((dd (m / n), dd (m % n), ()), ()) := by
  obtain ⟨a, ha⟩ : ∃ a, a = dd m := ⟨_, rfl⟩
  have hda : AllD a := ha ▸ dd_D m
  have hva : dval a = m := by rw [ha, dval_dd]
  have hapos : 0 < a.length := by rw [ha]; exact dd_len_pos m
  rw [← ha]
  rw [← ha] at hm
  obtain ⟨r, hr, s, rfl, h1, h2, h3⟩ := loopO_ind (step := r_divMag_s4) (Q := fun r => ∃ s : List UInt8, r = (Ex.exit 0, (a, dd n, codes s, dd (m % n), (a.length : Int), ())) ∧ AllD s ∧ s.length = a.length ∧ dval s = m / n)
    (fun k x => ∃ (i : Nat) (q : List Int) (R : Nat) (s : List UInt8), x = (a, dd n, q, dd R, (i : Int), ()) ∧ k + i = a.length ∧ q.length = a.length ∧ q.take i = codes s ∧ AllD s ∧ s.length = i ∧ R < n ∧ pfx a i = dval s * n + R) (by
      rintro k x ⟨i, q, R, s, rfl, hk, hql, hqt, hs, hsl, hR, hv⟩
      by_cases hi : i < a.length
      · have hp := pfx_succ hi
        have hA := hda a[i] (List.getElem_mem hi)
        have hcut : (a.take (i + 1)).drop i = [a[i]] := by
          rw [List.take_succ_eq_append_getElem hi]
          have hl : (a.take i).length = i := by rw [List.length_take]; omega
          conv => lhs; arg 1; rw [← hl]
          exact List.drop_left
        obtain ⟨A, hAe⟩ : ∃ A, A = a[i] := ⟨_, rfl⟩
        rw [← hAe] at hp hA hcut
        have hAl := dig_lt hA
        have hRl : (dd R).length ≤ (dd n).length := dd_len_mono (by omega)
        have htr := trim_dval (s := dd R ++ [A]) ((dd_D R).app (fun c hc => by rw [List.mem_singleton.1 hc]; exact hA)) (by simp) (by simp; omega)
        rw [dval_snoc, dval_dd] at htr
        obtain ⟨S, hS⟩ : ∃ S, S = 10 * R + dig A := ⟨_, rfl⟩
        rw [← hS] at htr
        have hSl : (dd S).length ≤ 100000000 := by
          have : S < 10 ^ ((dd n).length + 1) := by
            have h1 := dd_len_lt n
            rw [Nat.pow_succ]; omega
          have := dd_lt_len this (by omega)
          omega
        have hin := r_div_s8_eq a q (i : Int) S n h0 hSl (by omega)
        have hd9 : S / n ≤ 9 := by
          have : S / n < 10 := Nat.div_lt_of_lt_mul (by omega)
          omega
        obtain ⟨d, hd1, hd2, hd3⟩ := code_of (k := ((S / n : Nat) : Int)) ⟨Int.natCast_nonneg _, by exact_mod_cast Nat.lt_succ_of_le hd9⟩
        have e1 : ((i : Int) + 1).toNat = i + 1 := by omega
        have e2 : ((i : Int)).toNat = i := by omega
        have g : (dd R).length + ([A] : List UInt8).length ≤ maxS := by rw [maxS_eq]; simp; omega
        refine .inr ⟨k - 1, (a, dd n, q.set i (48 + ((S / n : Nat) : Int)), dd (S % n), ((i + 1 : Nat) : Int), ()), ?_, by omega, i + 1, _, S % n, s ++ [d], rfl, by omega, by simpa using hql, ?_, ?_, by simp [hsl], Nat.mod_lt _ (by omega), ?_⟩
        · simp (disch := (first | omega | (simp only [maxN_eq, List.length_append, List.length_cons, List.length_nil, List.length_set, List.length_replicate, List.length_take, List.length_drop]; omega))) only [r_divMag_s4, e1, e2, hcut, grd_dec g, htr, hin, grd_tt, grd_and, grd_dec, grd_ne, cond_dt, cond_df, cond_et, cond_ef, cond_nt, cond_nf, w64, wu64, wu32, wu8, tm, td, bind_some', same_ee, same_er, same_re, same_rr, cond_t, cond_f, Bool.not_true, Bool.not_false]
          rfl
        · rw [take_set (by omega), hqt, codes_snoc, hd1]
        · exact hs.app (fun c hc => by rw [List.mem_singleton.1 hc]; exact hd2)
        · rw [dval_snoc, hp, hv]
          have h5 : dig d = S / n := by exact_mod_cast hd3
          have h6 := Nat.div_add_mod S n
          rw [h5]
          grind
      · have hia : i = a.length := by omega
        subst hia
        rw [List.take_of_length_le (by omega)] at hqt
        have hv' : m = dval s * n + R := by rw [← hva, ← hv]; unfold pfx; rw [List.take_length]
        have hq' : m / n = dval s := by rw [hv', Nat.mul_comm, Nat.mul_add_div (by omega), Nat.div_eq_of_lt hR]; omega
        have hm' : m % n = R := by rw [hv', Nat.mul_comm, Nat.mul_add_mod, Nat.mod_eq_of_lt hR]
        refine .inl ⟨(Ex.exit 0, (a, dd n, codes s, dd (m % n), (a.length : Int), ())), ?_, by simp, s, rfl, hs, hsl, hq'.symm⟩
        rw [← hqt, hm']
        simp (disch := (first | omega | (simp only [maxN_eq, List.length_append, List.length_cons, List.length_nil, List.length_set, List.length_replicate, List.length_take, List.length_drop]; omega))) only [r_divMag_s4, grd_tt, grd_and, grd_dec, grd_ne, cond_dt, cond_df, cond_et, cond_ef, cond_nt, cond_nf, w64, wu64, wu32, wu8, tm, td, bind_some', same_ee, same_er, same_re, same_rr, cond_t, cond_f, Bool.not_true, Bool.not_false]) a.length (a, dd n, List.replicate ((a.length : Int)).toNat 0, [48], 0, ()) ⟨0, _, 0, [], by rw [dd_zero]; rfl, by omega, by simp, by simp [codes], by simp [AllD], rfl, by omega, by unfold pfx; simp [dval]⟩
  have ht := trim_dval h1 (fun e => by rw [e] at h2; simp at h2; omega) (by omega)
  rw [h3] at ht
  unfold r_divMag
  rw [hr]
  simp (disch := (first | omega | (simp only [maxN_eq, List.length_append, List.length_cons, List.length_nil, List.length_set, List.length_replicate, List.length_take, List.length_drop]; omega))) only [codes_back, ht, grd_tt, grd_and, grd_dec, grd_ne, cond_dt, cond_df, cond_et, cond_ef, cond_nt, cond_nf, w64, wu64, wu32, wu8, tm, td, bind_some', same_ee, same_er, same_re, same_rr, cond_t, cond_f, Bool.not_true, Bool.not_false]
theorem r_gcd_eq (m n : Nat) (hm : (dd m).length ≤ 10000000) (hn : (dd n).length ≤ 10000000) : r_gcdMag (dd m) (dd n) = some ((dd (Nat.gcd m n), ()), ()) := by
  obtain ⟨r, hr, b, rfl⟩ := loopO_ind (step := r_gcdMag_s1) (Q := fun r => ∃ b, r = (Ex.exit 0, (dd (Nat.gcd m n), b, ())))
    (fun k x => ∃ a b : Nat, x = (dd a, dd b, ()) ∧ k = b ∧ Nat.gcd a b = Nat.gcd m n ∧ (dd a).length ≤ 10000000 ∧ (dd b).length ≤ 10000000) (by
      rintro k x ⟨a, b, rfl, rfl, hg, ha, hb⟩
      by_cases h0 : k = 0
      · subst h0
        refine .inl ⟨(Ex.exit 0, (dd a, dd 0, ())), ?_, by simp, dd 0, by rw [← hg, Nat.gcd_zero_right]⟩
        simp (disch := (first | omega | (simp only [maxN_eq, List.length_append, List.length_cons, List.length_nil, List.length_set, List.length_replicate, List.length_take, List.length_drop]; omega))) only [r_gcdMag_s1, beq_of dd_zero, grd_tt, grd_and, grd_dec, grd_ne, cond_dt, cond_df, cond_et, cond_ef, cond_nt, cond_nf, w64, wu64, wu32, wu8, tm, td, bind_some', same_ee, same_er, same_re, same_rr, cond_t, cond_f, Bool.not_true, Bool.not_false]
      · have hne : dd k ≠ [48] := fun e => h0 (by rw [← dd_zero] at e; exact dd_inj e)
        refine .inr ⟨a % k, _, ?_, Nat.mod_lt _ (by omega), k, a % k, rfl, rfl, ?_, hb, ?_⟩
        · simp (disch := (first | omega | (simp only [maxN_eq, List.length_append, List.length_cons, List.length_nil, List.length_set, List.length_replicate, List.length_take, List.length_drop]; omega))) only [r_gcdMag_s1, beq_ne hne, r_div_eq a k ha hb h0, grd_tt, grd_and, grd_dec, grd_ne, cond_dt, cond_df, cond_et, cond_ef, cond_nt, cond_nf, w64, wu64, wu32, wu8, tm, td, bind_some', same_ee, same_er, same_re, same_rr, cond_t, cond_f, Bool.not_true, Bool.not_false]
        · rw [Nat.gcd_comm, ← Nat.gcd_rec, Nat.gcd_comm, hg]
        · exact Nat.le_trans (dd_len_mono (Nat.le_of_lt (Nat.mod_lt _ (by omega)))) hb) n _ ⟨m, n, rfl, rfl, rfl, hm, hn⟩
  unfold r_gcdMag
  rw [hr]
  simp (disch := (first | omega | (simp only [maxN_eq, List.length_append, List.length_cons, List.length_nil, List.length_set, List.length_replicate, List.length_take, List.length_drop]; omega))) only [grd_tt, grd_and, grd_dec, grd_ne, cond_dt, cond_df, cond_et, cond_ef, cond_nt, cond_nf, w64, wu64, wu32, wu8, tm, td, bind_some', same_ee, same_er, same_re, same_rr, cond_t, cond_f, Bool.not_true, Bool.not_false]
end Go.AM.Num
end
section
set_option linter.unusedSimpArgs false
set_option linter.unusedVariables false
namespace Go.AM.Num
theorem dd_beq_zero (m : Nat) : (dd m == [48]) = decide (m = 0) := by
  by_cases h : m = 0
  · subst h; rw [decide_eq_true rfl]; exact beq_of dd_zero
  · rw [decide_eq_false h]; exact beq_ne (fun e => h (by rw [← dd_zero] at e; exact dd_inj e))
theorem dd_beq_one (m : Nat) : (dd m == [49]) = decide (m = 1) := by
  by_cases h : m = 1
  · subst h; rw [decide_eq_true rfl]; exact beq_of dd_one
  · rw [decide_eq_false h]; exact beq_ne (fun e => h (by rw [← dd_one] at e; exact dd_inj e))

def rr (neg : Bool) (m d : Nat) : Bool × List UInt8 × List UInt8 := (neg && decide (m ≠ 0), dd m, dd d)
theorem r_text_eq (neg : Bool) (m d : Nat) (hm : (dd m).length ≤ 100000000) (hd : (dd d).length ≤ 100000000) : r_ratio_text ((rr neg m d).1, (rr neg m d).2.1, (rr neg m d).2.2) = some ((tx neg m d, ()), ()) := by
  have h1 : ([45] : List UInt8).length + (dd m).length ≤ maxS := by rw [maxS_eq]; simp; omega
  have h2 : ([47] : List UInt8).length + (dd d).length ≤ maxS := by rw [maxS_eq]; simp; omega
  have h3 : (([45] : List UInt8) ++ dd m).length + (([47] : List UInt8) ++ dd d).length ≤ maxS := by rw [maxS_eq]; simp; omega
  have h4 : (dd m).length + (([47] : List UInt8) ++ dd d).length ≤ maxS := by rw [maxS_eq]; simp; omega
  have h5 := dd_beq_one d
  unfold r_ratio_text tx rr
  dsimp only
  by_cases hn : neg = true ∧ m ≠ 0
  · have e : (neg && decide (m ≠ 0)) = true := by rw [hn.1, decide_eq_true hn.2]; rfl
    rw [e, if_pos hn]
    by_cases h : d = 1
    · rw [decide_eq_true h] at h5
      simp (disch := (first | omega | (simp only [maxN_eq, List.length_append, List.length_cons, List.length_nil, List.length_set, List.length_replicate, List.length_take, List.length_drop]; omega))) only [h5, grd_dec h1, grd_tt, grd_and, grd_dec, grd_ne, cond_dt, cond_df, cond_et, cond_ef, cond_nt, cond_nf, w64, wu64, wu32, wu8, tm, td, bind_some', same_ee, same_er, same_re, same_rr, cond_t, cond_f, Bool.not_true, Bool.not_false]
      rw [if_pos h]; simp
    · rw [decide_eq_false h] at h5
      simp (disch := (first | omega | (simp only [maxN_eq, List.length_append, List.length_cons, List.length_nil, List.length_set, List.length_replicate, List.length_take, List.length_drop]; omega))) only [h5, grd_dec h1, grd_dec h2, grd_dec h3, grd_tt, grd_and, grd_dec, grd_ne, cond_dt, cond_df, cond_et, cond_ef, cond_nt, cond_nf, w64, wu64, wu32, wu8, tm, td, bind_some', same_ee, same_er, same_re, same_rr, cond_t, cond_f, Bool.not_true, Bool.not_false]
      rw [if_neg h]; rfl
  · have e : (neg && decide (m ≠ 0)) = false := by
      cases neg with
      | false => rfl
      | true =>
        have : m = 0 := by simpa using hn
        subst this; rfl
    rw [e, if_neg hn]
    by_cases h : d = 1
    · rw [decide_eq_true h] at h5
      simp (disch := (first | omega | (simp only [maxN_eq, List.length_append, List.length_cons, List.length_nil, List.length_set, List.length_replicate, List.length_take, List.length_drop]; omega))) only [h5, grd_tt, grd_and, grd_dec, grd_ne, cond_dt, cond_df, cond_et, cond_ef, cond_nt, cond_nf, w64, wu64, wu32, wu8, tm, td, bind_some', same_ee, same_er, same_re, same_rr, cond_t, cond_f, Bool.not_true, Bool.not_false]
      rw [if_pos h]; simp
    · rw [decide_eq_false h] at h5
      simp (disch := (first | omega | (simp only [maxN_eq, List.length_append, List.length_cons, List.length_nil, List.length_set, List.length_replicate, List.length_take, List.length_drop]; omega))) only [h5, grd_dec h2, grd_dec h4, grd_tt, grd_and, grd_dec, grd_ne, cond_dt, cond_df, cond_et, cond_ef, cond_nt, cond_nf, w64, wu64, wu32, wu8, tm, td, bind_some', same_ee, same_er, same_re, same_rr, cond_t, cond_f, Bool.not_true, Bool.not_false]
      rw [if_neg h]; rfl
theorem r_reduce_eq (neg : Bool) (m d : Nat) (hd : d ≠ 0) (hm : (dd m).length ≤ 10000000) (hdl : (dd d).length ≤ 10000000) :
    r_reduce neg (dd m) (dd d) = some ((rr neg (m / Nat.gcd m d) (d / Nat.gcd m d), ()), ()) := by
  have hg0 : Nat.gcd m d ≠ 0 := fun e => hd (Nat.gcd_eq_zero_iff.1 e).2
  have hgl : (dd (Nat.gcd m d)).length ≤ 10000000 := Nat.le_trans (dd_len_mono (Nat.le_of_dvd (by omega) (Nat.gcd_dvd_right m d))) hdl
  have hz := dd_beq_zero (m / Nat.gcd m d)
  unfold r_reduce rr
  cases neg with
  | false =>
    simp (disch := (first | omega | (simp only [maxN_eq, List.length_append, List.length_cons, List.length_nil, List.length_set, List.length_replicate, List.length_take, List.length_drop]; omega))) only [r_gcd_eq m d hm hdl, r_div_eq m _ hm hgl hg0, r_div_eq d _ hdl hgl hg0, grd_tt, grd_and, grd_dec, grd_ne, cond_dt, cond_df, cond_et, cond_ef, cond_nt, cond_nf, w64, wu64, wu32, wu8, tm, td, bind_some', same_ee, same_er, same_re, same_rr, cond_t, cond_f, Bool.not_true, Bool.not_false]
    rfl
  | true =>
    simp (disch := (first | omega | (simp only [maxN_eq, List.length_append, List.length_cons, List.length_nil, List.length_set, List.length_replicate, List.length_take, List.length_drop]; omega))) only [r_gcd_eq m d hm hdl, r_div_eq m _ hm hgl hg0, r_div_eq d _ hdl hgl hg0, hz, grd_tt, grd_and, grd_dec, grd_ne, cond_dt, cond_df, cond_et, cond_ef, cond_nt, cond_nf, w64, wu64, wu32, wu8, tm, td, bind_some', same_ee, same_er, same_re, same_rr, cond_t, cond_f, Bool.not_true, Bool.not_false]
    simp only [Bool.true_and, ne_eq, decide_not]

theorem r_fin (neg : Bool) (m d : Nat) (hd : d ≠ 0) (hm : (dd m).length ≤ 10000000) (hdl : (dd d).length ≤ 10000000) :
    ∃ r, r_reduce neg (dd m) (dd d) = some ((r, ()), ()) ∧ r_ratio_text (r.1, r.2.1, r.2.2) = some ((txt (mkRat (sg neg m) d), ()), ()) := by
  refine ⟨_, r_reduce_eq neg m d hd hm hdl, ?_⟩
  rw [r_text_eq neg _ _ (Nat.le_trans (dd_len_mono (Nat.div_le_self _ _)) (by omega)) (Nat.le_trans (dd_len_mono (Nat.div_le_self _ _)) (by omega)), tx_lowest neg m d hd]

def bad : Bool × List UInt8 × List UInt8 := (false, [], [])

noncomputable def ptail (a : List UInt8) (neg : Bool) (num den : List UInt8) : Option (((Bool × List UInt8 × List UInt8) × Bool × Unit) × Unit) :=
  (r_digits num).bind fun r2 =>
  cond (!r2.1.1)
    (some (((false, ([] : List UInt8), ([] : List UInt8)), false, ()), ()))
    ((r_digits den).bind fun r3 =>
    cond (!r3.1.1)
      (some (((false, ([] : List UInt8), ([] : List UInt8)), false, ()), ()))
      (cond (den == ([48] : List UInt8))
        (some (((false, ([] : List UInt8), ([] : List UInt8)), false, ()), ()))
        ((r_trim num).bind fun r4 =>
        cond (!(r4.1.1 == num))
          (some (((false, ([] : List UInt8), ([] : List UInt8)), false, ()), ()))
          ((r_trim den).bind fun r5 =>
          cond (!(r5.1.1 == den))
            (some (((false, ([] : List UInt8), ([] : List UInt8)), false, ()), ()))
            ((r_reduce neg num den).bind fun r6 =>
            (r_ratio_text (r6.1.1.1, r6.1.1.2.1, r6.1.1.2.2)).bind fun r7 =>
            cond (!(r7.1.1 == a))
              (some (((false, ([] : List UInt8), ([] : List UInt8)), false, ()), ()))
              (some (((neg, num, den), true, ()), ())))))))
theorem figs_dd (m : Nat) : figs (dd m) := ⟨dd_ne m, dd_D m⟩
theorem ptail_good {a : List UInt8} {neg : Bool} {m d : Nat} (hd : d ≠ 0) (hm : (dd m).length ≤ 10000000) (hdl : (dd d).length ≤ 10000000) (ha : a = txt (mkRat (sg neg m) d)) :
    ptail a neg (dd m) (dd d) = some (((neg, dd m, dd d), true, ()), ()) := by
  obtain ⟨r, h1, h2⟩ := r_fin neg m d hd hm hdl
  have t1 := trim_dval (dd_D m) (dd_ne m) (by omega)
  have t2 := trim_dval (dd_D d) (dd_ne d) (by omega)
  rw [dval_dd] at t1 t2
  have z := dd_beq_zero d
  rw [decide_eq_false hd] at z
  unfold ptail
  simp (disch := (first | omega | (simp only [maxN_eq, List.length_append, List.length_cons, List.length_nil, List.length_set, List.length_replicate, List.length_take, List.length_drop]; omega))) only [r_digits_eq (s := dd m) (by omega), r_digits_eq (s := dd d) (by omega), decide_eq_true (figs_dd m), decide_eq_true (figs_dd d), z, t1, t2, beq_of (rfl : dd m = dd m), beq_of (rfl : dd d = dd d), h1, h2, beq_of ha.symm, grd_tt, grd_and, grd_dec, grd_ne, cond_dt, cond_df, cond_et, cond_ef, cond_nt, cond_nf, w64, wu64, wu32, wu8, tm, td, bind_some', same_ee, same_er, same_re, same_rr, cond_t, cond_f, Bool.not_true, Bool.not_false]
theorem ptail_spec {a num den : List UInt8} {neg : Bool} (hn : num.length ≤ 1000000) (hdl : den.length ≤ 1000000) :
    (∃ m d, num = dd m ∧ den = dd d ∧ d ≠ 0 ∧ a = txt (mkRat (sg neg m) d) ∧ ptail a neg num den = some (((neg, num, den), true, ()), ())) ∨
    (ptail a neg num den = some ((bad, false, ()), ()) ∧ ¬ ∃ m d, num = dd m ∧ den = dd d ∧ d ≠ 0 ∧ a = txt (mkRat (sg neg m) d)) := by
  by_cases hex : ∃ m d, num = dd m ∧ den = dd d ∧ d ≠ 0 ∧ a = txt (mkRat (sg neg m) d)
  · obtain ⟨m, d, rfl, rfl, hd, ha⟩ := hex
    exact .inl ⟨m, d, rfl, rfl, hd, ha, ptail_good hd (by omega) (by omega) ha⟩
  · refine .inr ⟨?_, hex⟩
    have d1 := r_digits_eq (s := num) (by omega)
    have d2 := r_digits_eq (s := den) (by omega)
    unfold ptail bad
    by_cases f1 : figs num
    · by_cases f2 : figs den
      · have t1 := trim_dval f1.2 f1.1 (by omega)
        have t2 := trim_dval f2.2 f2.1 (by omega)
        by_cases z : den = [48]
        · simp (disch := (first | omega | (simp only [maxN_eq, List.length_append, List.length_cons, List.length_nil, List.length_set, List.length_replicate, List.length_take, List.length_drop]; omega))) only [d1, d2, decide_eq_true f1, decide_eq_true f2, beq_of z, grd_tt, grd_and, grd_dec, grd_ne, cond_dt, cond_df, cond_et, cond_ef, cond_nt, cond_nf, w64, wu64, wu32, wu8, tm, td, bind_some', same_ee, same_er, same_re, same_rr, cond_t, cond_f, Bool.not_true, Bool.not_false]
        · by_cases e1 : dd (dval num) = num
          · by_cases e2 : dd (dval den) = den
            · have hd : dval den ≠ 0 := fun e => z (by rw [← e2, e, dd_zero])
              obtain ⟨r, g1, g2⟩ := r_fin neg (dval num) (dval den) hd (by rw [e1]; omega) (by rw [e2]; omega)
              rw [e1, e2] at g1
              have hna : txt (mkRat (sg neg (dval num)) (dval den)) ≠ a := fun e => hex ⟨_, _, e1.symm, e2.symm, hd, e.symm⟩
              simp (disch := (first | omega | (simp only [maxN_eq, List.length_append, List.length_cons, List.length_nil, List.length_set, List.length_replicate, List.length_take, List.length_drop]; omega))) only [d1, d2, decide_eq_true f1, decide_eq_true f2, beq_ne z, t1, t2, beq_of e1, beq_of e2, g1, g2, beq_ne hna, grd_tt, grd_and, grd_dec, grd_ne, cond_dt, cond_df, cond_et, cond_ef, cond_nt, cond_nf, w64, wu64, wu32, wu8, tm, td, bind_some', same_ee, same_er, same_re, same_rr, cond_t, cond_f, Bool.not_true, Bool.not_false]
            · simp (disch := (first | omega | (simp only [maxN_eq, List.length_append, List.length_cons, List.length_nil, List.length_set, List.length_replicate, List.length_take, List.length_drop]; omega))) only [d1, d2, decide_eq_true f1, decide_eq_true f2, beq_ne z, t1, t2, beq_of e1, beq_ne e2, grd_tt, grd_and, grd_dec, grd_ne, cond_dt, cond_df, cond_et, cond_ef, cond_nt, cond_nf, w64, wu64, wu32, wu8, tm, td, bind_some', same_ee, same_er, same_re, same_rr, cond_t, cond_f, Bool.not_true, Bool.not_false]
          · simp (disch := (first | omega | (simp only [maxN_eq, List.length_append, List.length_cons, List.length_nil, List.length_set, List.length_replicate, List.length_take, List.length_drop]; omega))) only [d1, d2, decide_eq_true f1, decide_eq_true f2, beq_ne z, t1, beq_ne e1, grd_tt, grd_and, grd_dec, grd_ne, cond_dt, cond_df, cond_et, cond_ef, cond_nt, cond_nf, w64, wu64, wu32, wu8, tm, td, bind_some', same_ee, same_er, same_re, same_rr, cond_t, cond_f, Bool.not_true, Bool.not_false]
      · simp (disch := (first | omega | (simp only [maxN_eq, List.length_append, List.length_cons, List.length_nil, List.length_set, List.length_replicate, List.length_take, List.length_drop]; omega))) only [d1, d2, decide_eq_true f1, decide_eq_false f2, grd_tt, grd_and, grd_dec, grd_ne, cond_dt, cond_df, cond_et, cond_ef, cond_nt, cond_nf, w64, wu64, wu32, wu8, tm, td, bind_some', same_ee, same_er, same_re, same_rr, cond_t, cond_f, Bool.not_true, Bool.not_false]
    · simp (disch := (first | omega | (simp only [maxN_eq, List.length_append, List.length_cons, List.length_nil, List.length_set, List.length_replicate, List.length_take, List.length_drop]; omega))) only [d1, decide_eq_false f1, grd_tt, grd_and, grd_dec, grd_ne, cond_dt, cond_df, cond_et, cond_ef, cond_nt, cond_nf, w64, wu64, wu32, wu8, tm, td, bind_some', same_ee, same_er, same_re, same_rr, cond_t, cond_f, Bool.not_true, Bool.not_false]
theorem s6_eq (a s : List UInt8) (t2 : Bool × List UInt8 × List UInt8) (neg : Bool) (hl : s.length ≤ 1000000000) :
    ∃ num den i, loopO r_parse_s6 (a, t2, (neg, [], [49]), s, 0, ()) = some (Ex.exit 0, (a, t2, (neg, [], den), num, i, ())) ∧
      ((s = num ∧ den = [49] ∧ (47 : UInt8) ∉ s) ∨ (s = num ++ 47 :: den ∧ (47 : UInt8) ∉ num)) := by
  obtain ⟨r, hr, num, den, i, rfl, hq⟩ := loopO_ind (step := r_parse_s6) (Q := fun r => ∃ num den i, r = (Ex.exit 0, (a, t2, (neg, [], den), num, i, ())) ∧ ((s = num ∧ den = [49] ∧ (47 : UInt8) ∉ s) ∨ (s = num ++ 47 :: den ∧ (47 : UInt8) ∉ num)))
    (fun m x => ∃ k : Nat, m + k = s.length ∧ x = (a, t2, (neg, [], [49]), s, (k : Int), ()) ∧ (47 : UInt8) ∉ s.take k) (by
      rintro m x ⟨k, hm, rfl, hk⟩
      by_cases h : k < s.length
      · have hg := getD_u8 h
        have e : (k : Int).toNat = k := by omega
        have e1 : ((k : Int) + 1).toNat = k + 1 := by omega
        by_cases h47 : s[k] = 47
        · have hc : ((s[k].toNat : Nat) : Int) = 47 := by rw [h47]; rfl
          refine .inl ⟨(Ex.exit 0, (a, t2, (neg, [], s.drop (k + 1)), s.take k, (k : Int), ())), ?_, by simp, s.take k, s.drop (k + 1), (k : Int), rfl, .inr ⟨?_, hk⟩⟩
          · simp (disch := (first | omega | (simp only [maxN_eq, List.length_append, List.length_cons, List.length_nil, List.length_set, List.length_replicate, List.length_take, List.length_drop]; omega))) only [r_parse_s6, e, e1, hg, hc, grd_tt, grd_and, grd_dec, grd_ne, cond_dt, cond_df, cond_et, cond_ef, cond_nt, cond_nf, w64, wu64, wu32, wu8, tm, td, bind_some', same_ee, same_er, same_re, same_rr, cond_t, cond_f, Bool.not_true, Bool.not_false]
          · conv => lhs; rw [← List.take_append_drop k s, List.drop_eq_getElem_cons h, h47]
        · have hc : ((s[k].toNat : Nat) : Int) ≠ 47 := fun e => h47 (UInt8.toNat_inj.1 (by show s[k].toNat = 47; omega))
          refine .inr ⟨m - 1, (a, t2, (neg, [], [49]), s, ((k + 1 : Nat) : Int), ()), ?_, by omega, k + 1, by omega, rfl, ?_⟩
          · simp (disch := (first | omega | (simp only [maxN_eq, List.length_append, List.length_cons, List.length_nil, List.length_set, List.length_replicate, List.length_take, List.length_drop]; omega))) only [r_parse_s6, e, hg, cond_ef hc, grd_tt, grd_and, grd_dec, grd_ne, cond_dt, cond_df, cond_et, cond_ef, cond_nt, cond_nf, w64, wu64, wu32, wu8, tm, td, bind_some', same_ee, same_er, same_re, same_rr, cond_t, cond_f, Bool.not_true, Bool.not_false]
            rfl
          · rw [List.take_succ_eq_append_getElem h]
            intro hm'
            rcases List.mem_append.1 hm' with hm' | hm'
            · exact hk hm'
            · exact h47 (List.mem_singleton.1 hm').symm
      · have hks : k = s.length := by omega
        subst hks
        refine .inl ⟨(Ex.exit 0, (a, t2, (neg, [], [49]), s, (s.length : Int), ())), ?_, by simp, s, [49], _, rfl, .inl ⟨rfl, rfl, by simpa using hk⟩⟩
        simp (disch := (first | omega | (simp only [maxN_eq, List.length_append, List.length_cons, List.length_nil, List.length_set, List.length_replicate, List.length_take, List.length_drop]; omega))) only [r_parse_s6, grd_tt, grd_and, grd_dec, grd_ne, cond_dt, cond_df, cond_et, cond_ef, cond_nt, cond_nf, w64, wu64, wu32, wu8, tm, td, bind_some', same_ee, same_er, same_re, same_rr, cond_t, cond_f, Bool.not_true, Bool.not_false]) s.length _ ⟨0, by omega, rfl, by simp⟩
  exact ⟨num, den, i, hr, hq⟩
theorem parse_split (a : List UInt8) (hl : a.length ≤ 1000000000) : ∃ neg s num den, a = sgn neg ++ s ∧ (neg = false → ∀ r, s ≠ 45 :: r) ∧ ((s = num ∧ den = [49] ∧ (47 : UInt8) ∉ s) ∨ (s = num ++ 47 :: den ∧ (47 : UInt8) ∉ num)) ∧ r_parse a = ptail a neg num den := by
  have h00 : ((0 : Int)).toNat = 0 := rfl
  have h11 : ((1 : Int)).toNat = 1 := rfl
  by_cases h0 : a = []
  · subst h0
    obtain ⟨num, den, i, hs, hq⟩ := s6_eq [] [] (false, [], []) false (by simp)
    refine ⟨false, [], num, den, rfl, fun _ r => by simp, hq, ?_⟩
    unfold r_parse
    simp (disch := (first | omega | (simp only [maxN_eq, List.length_append, List.length_cons, List.length_nil, List.length_set, List.length_replicate, List.length_take, List.length_drop]; omega))) only [hs, grd_tt, grd_and, grd_dec, grd_ne, cond_dt, cond_df, cond_et, cond_ef, cond_nt, cond_nf, w64, wu64, wu32, wu8, tm, td, bind_some', same_ee, same_er, same_re, same_rr, cond_t, cond_f, Bool.not_true, Bool.not_false]
    rfl
  · cases a with
    | nil => exact absurd rfl h0
    | cons c s =>
      have hne := beq_ne h0
      have hg : (c :: s : List UInt8).getD 0 0 = c := rfl
      have hlen : (c :: s).length = s.length + 1 := rfl
      by_cases hc : c = 45
      · subst hc
        obtain ⟨num, den, i, hs, hq⟩ := s6_eq (45 :: s) s (false, [], []) true (by omega)
        have h45 : (((45 : UInt8).toNat : Nat) : Int) = 45 := rfl
        refine ⟨true, s, num, den, rfl, (fun h => by cases h), hq, ?_⟩
        have hdrop : (45 :: s : List UInt8).drop 1 = s := rfl
        unfold r_parse
        simp (disch := (first | omega | (simp only [maxN_eq, List.length_append, List.length_cons, List.length_nil, List.length_set, List.length_replicate, List.length_take, List.length_drop]; omega))) only [hne, h00, hg, h45, h11, hdrop, hs, grd_tt, grd_and, grd_dec, grd_ne, cond_dt, cond_df, cond_et, cond_ef, cond_nt, cond_nf, w64, wu64, wu32, wu8, tm, td, bind_some', same_ee, same_er, same_re, same_rr, cond_t, cond_f, Bool.not_true, Bool.not_false]
        rfl
      · have hcn : ((c.toNat : Nat) : Int) ≠ 45 := fun e => hc (UInt8.toNat_inj.1 (by show c.toNat = 45; omega))
        obtain ⟨num, den, i, hs, hq⟩ := s6_eq (c :: s) (c :: s) (false, [], []) false (by omega)
        refine ⟨false, c :: s, num, den, rfl, fun _ r h => hc (by simpa using (List.cons.inj h).1), hq, ?_⟩
        unfold r_parse
        simp (disch := (first | omega | (simp only [maxN_eq, List.length_append, List.length_cons, List.length_nil, List.length_set, List.length_replicate, List.length_take, List.length_drop]; omega))) only [hne, h00, hg, cond_ef hcn, hs, grd_tt, grd_and, grd_dec, grd_ne, cond_dt, cond_df, cond_et, cond_ef, cond_nt, cond_nf, w64, wu64, wu32, wu8, tm, td, bind_some', same_ee, same_er, same_re, same_rr, cond_t, cond_f, Bool.not_true, Bool.not_false]
        rfl
theorem r_parse_spec (a : List UInt8) (hl : a.length ≤ 1000000) :
    (∃ q, a = txt q ∧ r_parse a = some (((decide (q.num < 0), dd q.num.natAbs, dd q.den), true, ()), ())) ∨ (r_parse a = some ((bad, false, ()), ()) ∧ rd a = none) := by
  obtain ⟨neg, s, num, den, ha, hs, hq, hp⟩ := parse_split a (by omega)
  have hsl : s.length ≤ 1000000 := by rw [ha, List.length_append] at hl; omega
  have hnl : num.length ≤ 1000000 ∧ den.length ≤ 1000000 := by
    rcases hq with ⟨rfl, rfl, _⟩ | ⟨rfl, _⟩
    · exact ⟨hsl, by simp⟩
    · rw [List.length_append, List.length_cons] at hsl; exact ⟨by omega, by omega⟩
  have shp : ∀ q, a = txt q → neg = decide (q.num < 0) ∧ num = dd q.num.natAbs ∧ den = dd q.den := by
    intro q h
    obtain ⟨e1, e2⟩ := shape hs (ha ▸ h)
    refine ⟨e1, ?_⟩
    rcases hq with ⟨rfl, rfl, hx⟩ | ⟨rfl, hx⟩
    · by_cases hd : q.den = 1
      · rw [if_pos hd, List.append_nil] at e2
        exact ⟨e2, by rw [hd, dd_one]⟩
      · rw [if_neg hd] at e2
        exact absurd (by rw [e2]; simp) hx
    · by_cases hd : q.den = 1
      · rw [if_pos hd, List.append_nil] at e2
        exact absurd (show (47 : UInt8) ∈ dd q.num.natAbs by rw [← e2]; simp) not_47
      · rw [if_neg hd] at e2
        exact append_47 hx not_47 e2
  rw [hp]
  rcases ptail_spec (a := a) (neg := neg) hnl.1 hnl.2 with ⟨m, d, rfl, rfl, hd, hat, hg⟩ | ⟨hg, hno⟩
  · obtain ⟨e1, e2, e3⟩ := shp _ hat
    refine .inl ⟨_, hat, ?_⟩
    rw [hg, ← e1, ← e2, ← e3]
  · refine .inr ⟨hg, rd_none fun q h => hno ?_⟩
    obtain ⟨e1, e2, e3⟩ := shp q h
    refine ⟨q.num.natAbs, q.den, e2, e3, q.den_nz, ?_⟩
    rw [e1, sg_self, Rat.mkRat_self]; exact h
end Go.AM.Num
end
section
set_option linter.unusedSimpArgs false
set_option linter.unusedVariables false
namespace Go.AM.Num
theorem rp (a : List UInt8) (hl : a.length ≤ 1000000) :
    (∃ q, a = txt q ∧ rd a = some q ∧ D q ≤ 1000001 ∧ r_parse a = some (((decide (q.num < 0), dd q.num.natAbs, dd q.den), true, ()), ())) ∨ (rd a = none ∧ r_parse a = some ((bad, false, ()), ())) := by
  rcases r_parse_spec a hl with ⟨q, rfl, h⟩ | ⟨h1, h2⟩
  · exact .inl ⟨q, rfl, rd_txt q, D_of_len hl, h⟩
  · exact .inr ⟨h2, h1⟩
theorem r_valid_eq {a : List UInt8} (ha : a.length ≤ 1000000) : r_Valid a = some (((rd a).isSome, ()), ()) := by
  unfold r_Valid
  rcases rp a ha with ⟨q, e, hr, _, hp⟩ | ⟨hr, hp⟩
  · rw [hr]; simp (disch := (first | omega | (simp only [maxN_eq, List.length_append, List.length_cons, List.length_nil, List.length_set, List.length_replicate, List.length_take, List.length_drop]; omega))) only [hp, grd_tt, grd_and, grd_dec, grd_ne, cond_dt, cond_df, cond_et, cond_ef, cond_nt, cond_nf, w64, wu64, wu32, wu8, tm, td, bind_some', same_ee, same_er, same_re, same_rr, cond_t, cond_f, Bool.not_true, Bool.not_false]; rfl
  · rw [hr]; simp (disch := (first | omega | (simp only [maxN_eq, List.length_append, List.length_cons, List.length_nil, List.length_set, List.length_replicate, List.length_take, List.length_drop]; omega))) only [hp, grd_tt, grd_and, grd_dec, grd_ne, cond_dt, cond_df, cond_et, cond_ef, cond_nt, cond_nf, w64, wu64, wu32, wu8, tm, td, bind_some', same_ee, same_er, same_re, same_rr, cond_t, cond_f, Bool.not_true, Bool.not_false]; rfl
theorem r_isInt_eq {a : List UInt8} (ha : a.length ≤ 1000000) : r_IsInt a = some ((isI a, ()), ()) := by
  unfold r_IsInt isI
  rcases rp a ha with ⟨q, e, hr, _, hp⟩ | ⟨hr, hp⟩
  · rw [hr]
    simp (disch := (first | omega | (simp only [maxN_eq, List.length_append, List.length_cons, List.length_nil, List.length_set, List.length_replicate, List.length_take, List.length_drop]; omega))) only [hp, dd_beq_one, grd_tt, grd_and, grd_dec, grd_ne, cond_dt, cond_df, cond_et, cond_ef, cond_nt, cond_nf, w64, wu64, wu32, wu8, tm, td, bind_some', same_ee, same_er, same_re, same_rr, cond_t, cond_f, Bool.not_true, Bool.not_false]
    rfl
  · rw [hr]; simp (disch := (first | omega | (simp only [maxN_eq, List.length_append, List.length_cons, List.length_nil, List.length_set, List.length_replicate, List.length_take, List.length_drop]; omega))) only [hp, grd_tt, grd_and, grd_dec, grd_ne, cond_dt, cond_df, cond_et, cond_ef, cond_nt, cond_nf, w64, wu64, wu32, wu8, tm, td, bind_some', same_ee, same_er, same_re, same_rr, cond_t, cond_f, Bool.not_true, Bool.not_false]
theorem r_sign_eq {a : List UInt8} (ha : a.length ≤ 1000000) : r_Sign a = some ((sSign a, ()), ()) := by
  unfold r_Sign sSign
  rcases rp a ha with ⟨q, e, hr, _, hp⟩ | ⟨hr, hp⟩
  · rw [hr]
    rcases Int.lt_trichotomy q.num 0 with h | h | h
    · simp (disch := (first | omega | (simp only [maxN_eq, List.length_append, List.length_cons, List.length_nil, List.length_set, List.length_replicate, List.length_take, List.length_drop]; omega))) only [hp, dd_beq_zero, decide_eq_false (show ¬ q.num.natAbs = 0 by omega), decide_eq_true h, grd_tt, grd_and, grd_dec, grd_ne, cond_dt, cond_df, cond_et, cond_ef, cond_nt, cond_nf, w64, wu64, wu32, wu8, tm, td, bind_some', same_ee, same_er, same_re, same_rr, cond_t, cond_f, Bool.not_true, Bool.not_false]
      rw [Int.sign_eq_neg_one_of_neg h]
    · simp (disch := (first | omega | (simp only [maxN_eq, List.length_append, List.length_cons, List.length_nil, List.length_set, List.length_replicate, List.length_take, List.length_drop]; omega))) only [hp, dd_beq_zero, decide_eq_true (show q.num.natAbs = 0 by omega), grd_tt, grd_and, grd_dec, grd_ne, cond_dt, cond_df, cond_et, cond_ef, cond_nt, cond_nf, w64, wu64, wu32, wu8, tm, td, bind_some', same_ee, same_er, same_re, same_rr, cond_t, cond_f, Bool.not_true, Bool.not_false]
      rw [h]; rfl
    · simp (disch := (first | omega | (simp only [maxN_eq, List.length_append, List.length_cons, List.length_nil, List.length_set, List.length_replicate, List.length_take, List.length_drop]; omega))) only [hp, dd_beq_zero, decide_eq_false (show ¬ q.num.natAbs = 0 by omega), decide_eq_false (show ¬ q.num < 0 by omega), grd_tt, grd_and, grd_dec, grd_ne, cond_dt, cond_df, cond_et, cond_ef, cond_nt, cond_nf, w64, wu64, wu32, wu8, tm, td, bind_some', same_ee, same_er, same_re, same_rr, cond_t, cond_f, Bool.not_true, Bool.not_false]
      rw [Int.sign_eq_one_of_pos h]
  · rw [hr]; simp (disch := (first | omega | (simp only [maxN_eq, List.length_append, List.length_cons, List.length_nil, List.length_set, List.length_replicate, List.length_take, List.length_drop]; omega))) only [hp, grd_tt, grd_and, grd_dec, grd_ne, cond_dt, cond_df, cond_et, cond_ef, cond_nt, cond_nf, w64, wu64, wu32, wu8, tm, td, bind_some', same_ee, same_er, same_re, same_rr, cond_t, cond_f, Bool.not_true, Bool.not_false]
theorem r_text_q (neg : Bool) (q : Rat) (h : D q ≤ 1000001) : r_ratio_text (neg && decide (q.num.natAbs ≠ 0), dd q.num.natAbs, dd q.den) = some ((tx neg q.num.natAbs q.den, ()), ()) :=
  r_text_eq neg _ _ (by have := num_len q; omega) (by have := den_len q; omega)
theorem tx_neg (q : Rat) : tx (!decide (q.num < 0)) q.num.natAbs q.den = txt (-q) := by
  unfold tx txt
  rw [Rat.neg_num, Rat.neg_den, Int.natAbs_neg]
  have : ((!decide (q.num < 0)) = true ∧ q.num.natAbs ≠ 0) ↔ -q.num < 0 := by
    constructor
    · rintro ⟨h1, h2⟩
      have : ¬ q.num < 0 := by simpa using h1
      omega
    · intro h; exact ⟨by rw [decide_eq_false (by omega)]; rfl, by omega⟩
  simp only [this]
theorem r_neg_eq {a : List UInt8} (ha : a.length ≤ 1000000) : r_Neg a = some ((un (fun q => txt (-q)) a, ()), ()) := by
  unfold r_Neg
  rcases rp a ha with ⟨q, e, hr, hD, hp⟩ | ⟨hr, hp⟩
  · rw [e] at hp ⊢
    rw [un_txt]
    by_cases h : q.num < 0
    · have ht := r_text_q false q hD
      have e1 := tx_neg q
      rw [decide_eq_true h] at e1
      simp only [Bool.not_true] at e1
      rw [e1] at ht
      simp (disch := (first | omega | (simp only [maxN_eq, List.length_append, List.length_cons, List.length_nil, List.length_set, List.length_replicate, List.length_take, List.length_drop]; omega))) only [hp, decide_eq_true h, grd_tt, grd_and, grd_dec, grd_ne, cond_dt, cond_df, cond_et, cond_ef, cond_nt, cond_nf, w64, wu64, wu32, wu8, tm, td, bind_some', same_ee, same_er, same_re, same_rr, cond_t, cond_f, Bool.not_true, Bool.not_false]
      simp only [Bool.false_and] at ht
      rw [ht]; rfl
    · have ht := r_text_q true q hD
      have e1 := tx_neg q
      rw [decide_eq_false h] at e1
      simp only [Bool.not_false] at e1
      rw [e1] at ht
      have e2 : (!(dd q.num.natAbs == [48])) = (true && decide (q.num.natAbs ≠ 0)) := by rw [dd_beq_zero]; simp
      rw [← e2] at ht
      simp (disch := (first | omega | (simp only [maxN_eq, List.length_append, List.length_cons, List.length_nil, List.length_set, List.length_replicate, List.length_take, List.length_drop]; omega))) only [hp, decide_eq_false h, grd_tt, grd_and, grd_dec, grd_ne, cond_dt, cond_df, cond_et, cond_ef, cond_nt, cond_nf, w64, wu64, wu32, wu8, tm, td, bind_some', same_ee, same_er, same_re, same_rr, cond_t, cond_f, Bool.not_true, Bool.not_false]
      rw [ht]; rfl
  · rw [un_none hr]; simp (disch := (first | omega | (simp only [maxN_eq, List.length_append, List.length_cons, List.length_nil, List.length_set, List.length_replicate, List.length_take, List.length_drop]; omega))) only [hp, grd_tt, grd_and, grd_dec, grd_ne, cond_dt, cond_df, cond_et, cond_ef, cond_nt, cond_nf, w64, wu64, wu32, wu8, tm, td, bind_some', same_ee, same_er, same_re, same_rr, cond_t, cond_f, Bool.not_true, Bool.not_false]
theorem r_opq (neg : Bool) (m d : Nat) (hd : d ≠ 0) (hm : (dd m).length ≤ 10000000) (hdl : (dd d).length ≤ 10000000) {ρ : Type} (K : List UInt8 → Option ρ) :
    (r_reduce neg (dd m) (dd d)).bind (fun r5 => (r_ratio_text (r5.1.1.1, r5.1.1.2.1, r5.1.1.2.2)).bind fun r6 => K r6.1.1) = K (txt (mkRat (sg neg m) d)) := by
  obtain ⟨r, h1, h2⟩ := r_fin neg m d hd hm hdl
  rw [h1, bind_some']
  show (r_ratio_text (r.1, r.2.1, r.2.2)).bind _ = _
  rw [h2]; rfl
theorem r_add_eq' {a b : List UInt8} (ha : a.length ≤ 900000) (hb : b.length ≤ 900000) : r_Add a b = some ((bin (fun p q => txt (p + q)) a b, ()), ()) := by
  unfold r_Add
  rcases rp a (by omega) with ⟨p, rfl, hr1, hD1, hp1⟩ | ⟨hr1, hp1⟩
  · rcases rp b (by omega) with ⟨q, rfl, hr2, hD2, hp2⟩ | ⟨hr2, hp2⟩
    · rw [bin_txt, add_form]
      have a1 := num_len p
      have a2 := den_len p
      have a3 := num_len q
      have a4 := den_len q
      have b1 := dd_len_mul p.num.natAbs q.den
      have b2 := dd_len_mul q.num.natAbs p.den
      have b3 := dd_len_mul p.den q.den
      have b4 := dd_len_add (p.num.natAbs * q.den) (q.num.natAbs * p.den)
      have b5 := dd_len_mono (Nat.sub_le (p.num.natAbs * q.den) (q.num.natAbs * p.den))
      have b6 := dd_len_mono (Nat.sub_le (q.num.natAbs * p.den) (p.num.natAbs * q.den))
      have m1 := r_mul_eq p.num.natAbs q.den (by omega) (by omega)
      have m2 := r_mul_eq q.num.natAbs p.den (by omega) (by omega)
      have m3 := r_mul_eq p.den q.den (by omega) (by omega)
      have hd0 : p.den * q.den ≠ 0 := Nat.mul_ne_zero p.den_nz q.den_nz
      obtain ⟨x, hx⟩ : ∃ x, x = p.num.natAbs * q.den := ⟨_, rfl⟩
      obtain ⟨y, hy⟩ : ∃ y, y = q.num.natAbs * p.den := ⟨_, rfl⟩
      rw [← hx] at b1 b4 b5 b6 m1 ⊢
      rw [← hy] at b2 b4 b5 b6 m2 ⊢
      obtain ⟨n1, hn1⟩ : ∃ n, n = decide (p.num < 0) := ⟨_, rfl⟩
      obtain ⟨n2, hn2⟩ : ∃ n, n = decide (q.num < 0) := ⟨_, rfl⟩
      rw [← hn1] at hp1 ⊢
      rw [← hn2] at hp2 ⊢
      by_cases hs : n1 = n2
      · subst hs
        have e : sg n1 x + sg n1 y = sg n1 (x + y) := by cases n1 <;> simp [sg]; omega
        rw [e]
        simp (disch := (first | omega | (simp only [maxN_eq, List.length_append, List.length_cons, List.length_nil, List.length_set, List.length_replicate, List.length_take, List.length_drop]; omega))) only [hp1, hp2, m1, m2, m3, beq_self_eq_true, r_add_eq x y (by omega) (by omega), grd_tt, grd_and, grd_dec, grd_ne, cond_dt, cond_df, cond_et, cond_ef, cond_nt, cond_nf, w64, wu64, wu32, wu8, tm, td, bind_some', same_ee, same_er, same_re, same_rr, cond_t, cond_f, Bool.not_true, Bool.not_false]
        exact r_opq n1 (x + y) (p.den * q.den) hd0 (by omega) (by omega) (fun t => some ((t, ()), ()))
      · have hsb : (n1 == n2) = false := by simpa using hs
        obtain ⟨c, hc, hc1, hc2⟩ := r_cmp_eq x y
        by_cases hle : y ≤ x
        · have hc0 : c ≥ 0 := by
            rcases Int.lt_or_le c 0 with h | h
            · have := hc1.1 h; omega
            · exact h
          have e : sg n1 x + sg n2 y = sg n1 (x - y) := by cases n1 <;> cases n2 <;> simp_all [sg] <;> omega
          rw [e]
          simp (disch := (first | omega | (simp only [maxN_eq, List.length_append, List.length_cons, List.length_nil, List.length_set, List.length_replicate, List.length_take, List.length_drop]; omega))) only [hp1, hp2, m1, m2, m3, hsb, hc, r_sub_eq x y (by omega) hle, grd_tt, grd_and, grd_dec, grd_ne, cond_dt, cond_df, cond_et, cond_ef, cond_nt, cond_nf, w64, wu64, wu32, wu8, tm, td, bind_some', same_ee, same_er, same_re, same_rr, cond_t, cond_f, Bool.not_true, Bool.not_false]
          exact r_opq n1 (x - y) (p.den * q.den) hd0 (by omega) (by omega) (fun t => some ((t, ()), ()))
        · have hc0 : ¬ c ≥ 0 := by have := hc1.2 (by omega); omega
          have e : sg n1 x + sg n2 y = sg n2 (y - x) := by cases n1 <;> cases n2 <;> simp_all [sg] <;> omega
          rw [e]
          simp (disch := (first | omega | (simp only [maxN_eq, List.length_append, List.length_cons, List.length_nil, List.length_set, List.length_replicate, List.length_take, List.length_drop]; omega))) only [hp1, hp2, m1, m2, m3, hsb, hc, r_sub_eq y x (by omega) (by omega), grd_tt, grd_and, grd_dec, grd_ne, cond_dt, cond_df, cond_et, cond_ef, cond_nt, cond_nf, w64, wu64, wu32, wu8, tm, td, bind_some', same_ee, same_er, same_re, same_rr, cond_t, cond_f, Bool.not_true, Bool.not_false]
          exact r_opq n2 (y - x) (p.den * q.den) hd0 (by omega) (by omega) (fun t => some ((t, ()), ()))
    · rw [bin_r hr2]; simp (disch := (first | omega | (simp only [maxN_eq, List.length_append, List.length_cons, List.length_nil, List.length_set, List.length_replicate, List.length_take, List.length_drop]; omega))) only [hp1, hp2, grd_tt, grd_and, grd_dec, grd_ne, cond_dt, cond_df, cond_et, cond_ef, cond_nt, cond_nf, w64, wu64, wu32, wu8, tm, td, bind_some', same_ee, same_er, same_re, same_rr, cond_t, cond_f, Bool.not_true, Bool.not_false]
  · rcases rp b (by omega) with ⟨q, rfl, hr2, hD2, hp2⟩ | ⟨hr2, hp2⟩ <;> (rw [bin_l hr1]; simp (disch := (first | omega | (simp only [maxN_eq, List.length_append, List.length_cons, List.length_nil, List.length_set, List.length_replicate, List.length_take, List.length_drop]; omega))) only [hp1, hp2, grd_tt, grd_and, grd_dec, grd_ne, cond_dt, cond_df, cond_et, cond_ef, cond_nt, cond_nf, w64, wu64, wu32, wu8, tm, td, bind_some', same_ee, same_er, same_re, same_rr, cond_t, cond_f, Bool.not_true, Bool.not_false])
theorem r_mul_eq' {a b : List UInt8} (ha : a.length ≤ 900000) (hb : b.length ≤ 900000) : r_Mul a b = some ((bin (fun p q => txt (p * q)) a b, ()), ()) := by
  unfold r_Mul
  rcases rp a (by omega) with ⟨p, rfl, hr1, hD1, hp1⟩ | ⟨hr1, hp1⟩
  · rcases rp b (by omega) with ⟨q, rfl, hr2, hD2, hp2⟩ | ⟨hr2, hp2⟩
    · rw [bin_txt, Rat.mul_def']
      have a1 := num_len p
      have a2 := den_len p
      have a3 := num_len q
      have a4 := den_len q
      have b1 := dd_len_mul p.num.natAbs q.num.natAbs
      have b3 := dd_len_mul p.den q.den
      have m1 := r_mul_eq p.num.natAbs q.num.natAbs (by omega) (by omega)
      have m3 := r_mul_eq p.den q.den (by omega) (by omega)
      have e : p.num * q.num = sg (decide (p.num < 0) != decide (q.num < 0)) (p.num.natAbs * q.num.natAbs) := by rw [← sg_mul, sg_self, sg_self]
      rw [e]
      simp (disch := (first | omega | (simp only [maxN_eq, List.length_append, List.length_cons, List.length_nil, List.length_set, List.length_replicate, List.length_take, List.length_drop]; omega))) only [hp1, hp2, m1, m3, grd_tt, grd_and, grd_dec, grd_ne, cond_dt, cond_df, cond_et, cond_ef, cond_nt, cond_nf, w64, wu64, wu32, wu8, tm, td, bind_some', same_ee, same_er, same_re, same_rr, cond_t, cond_f, Bool.not_true, Bool.not_false]
      exact r_opq _ (p.num.natAbs * q.num.natAbs) (p.den * q.den) (Nat.mul_ne_zero p.den_nz q.den_nz) (by omega) (by omega) (fun t => some ((t, ()), ()))
    · rw [bin_r hr2]; simp (disch := (first | omega | (simp only [maxN_eq, List.length_append, List.length_cons, List.length_nil, List.length_set, List.length_replicate, List.length_take, List.length_drop]; omega))) only [hp1, hp2, grd_tt, grd_and, grd_dec, grd_ne, cond_dt, cond_df, cond_et, cond_ef, cond_nt, cond_nf, w64, wu64, wu32, wu8, tm, td, bind_some', same_ee, same_er, same_re, same_rr, cond_t, cond_f, Bool.not_true, Bool.not_false]
  · rcases rp b (by omega) with ⟨q, rfl, hr2, hD2, hp2⟩ | ⟨hr2, hp2⟩ <;> (rw [bin_l hr1]; simp (disch := (first | omega | (simp only [maxN_eq, List.length_append, List.length_cons, List.length_nil, List.length_set, List.length_replicate, List.length_take, List.length_drop]; omega))) only [hp1, hp2, grd_tt, grd_and, grd_dec, grd_ne, cond_dt, cond_df, cond_et, cond_ef, cond_nt, cond_nf, w64, wu64, wu32, wu8, tm, td, bind_some', same_ee, same_er, same_re, same_rr, cond_t, cond_f, Bool.not_true, Bool.not_false])
theorem r_sub_eq' {a b : List UInt8} (ha : a.length ≤ 200000) (hb : b.length ≤ 200000) : r_Sub a b = some ((bin (fun p q => txt (p - q)) a b, ()), ()) := by
  have h1 := sub_eq' (a := a) (b := b) (by omega) (by omega)
  unfold n_Sub at h1
  rw [neg_eq (by omega), bind_some'] at h1
  dsimp only at h1
  rw [Add_eq (by omega) (by have := neg_len hb; omega), bind_some'] at h1
  unfold r_Sub
  rw [r_neg_eq (by omega), bind_some']
  dsimp only
  rw [r_add_eq' (by omega) (by have := neg_len hb; omega), bind_some']
  exact h1
theorem r_cmp_eq' {a b : List UInt8} (ha : a.length ≤ 200000) (hb : b.length ≤ 200000) : r_Cmp a b = some ((sCmp a b, ()), ()) := by
  have h1 := cmp_eq' (a := a) (b := b) (by omega) (by omega)
  have hl := bin_len (f := fun p q => p - q) (fun p q => by rw [Rat.sub_eq_add_neg]; have := D_add p (-q); rw [D_neg] at this; exact this) ha hb
  unfold n_Cmp at h1
  rw [sub_eq' (by omega) (by omega), bind_some'] at h1
  dsimp only at h1
  rw [sign_eq (by omega), bind_some'] at h1
  unfold r_Cmp
  have v1 := r_valid_eq (a := a) (by omega)
  have v2 := r_valid_eq (a := b) (by omega)
  cases hr1 : rd a with
  | none =>
    have e : sCmp a b = 0 := by unfold sCmp; rw [hr1]
    rw [hr1] at v1
    rw [e]; simp (disch := (first | omega | (simp only [maxN_eq, List.length_append, List.length_cons, List.length_nil, List.length_set, List.length_replicate, List.length_take, List.length_drop]; omega))) only [v1, Option.isSome_none, grd_tt, grd_and, grd_dec, grd_ne, cond_dt, cond_df, cond_et, cond_ef, cond_nt, cond_nf, w64, wu64, wu32, wu8, tm, td, bind_some', same_ee, same_er, same_re, same_rr, cond_t, cond_f, Bool.not_true, Bool.not_false]
  | some p =>
    rw [hr1] at v1
    cases hr2 : rd b with
    | none =>
      have e : sCmp a b = 0 := by unfold sCmp; rw [hr1, hr2]
      rw [hr2] at v2
      rw [e]; simp (disch := (first | omega | (simp only [maxN_eq, List.length_append, List.length_cons, List.length_nil, List.length_set, List.length_replicate, List.length_take, List.length_drop]; omega))) only [v1, v2, Option.isSome_some, Option.isSome_none, grd_tt, grd_and, grd_dec, grd_ne, cond_dt, cond_df, cond_et, cond_ef, cond_nt, cond_nf, w64, wu64, wu32, wu8, tm, td, bind_some', same_ee, same_er, same_re, same_rr, cond_t, cond_f, Bool.not_true, Bool.not_false]
    | some q =>
      rw [hr2] at v2
      simp (disch := (first | omega | (simp only [maxN_eq, List.length_append, List.length_cons, List.length_nil, List.length_set, List.length_replicate, List.length_take, List.length_drop]; omega))) only [v1, v2, Option.isSome_some, r_sub_eq' (a := a) (b := b) (by omega) (by omega), grd_tt, grd_and, grd_dec, grd_ne, cond_dt, cond_df, cond_et, cond_ef, cond_nt, cond_nf, w64, wu64, wu32, wu8, tm, td, bind_some', same_ee, same_er, same_re, same_rr, cond_t, cond_f, Bool.not_true, Bool.not_false]
      rw [r_sign_eq (by omega), bind_some']
      exact h1
end Go.AM.Num
end
section
set_option linter.unusedSimpArgs false
set_option linter.unusedVariables false
namespace Go.AM.Num
theorem u64_range (x : Int) : 0 ≤ IntKind.u64.wrap x ∧ IntKind.u64.wrap x ≤ 18446744073709551615 := by
  simp [IntKind.wrap, IntKind.bits, IntKind.signed]; omega

theorem tdm (v : Int) : (v.tmod 10 = if v < 0 then -((v.natAbs % 10 : Nat) : Int) else ((v.natAbs % 10 : Nat) : Int)) ∧ (v.tdiv 10 = if v < 0 then -((v.natAbs / 10 : Nat) : Int) else ((v.natAbs / 10 : Nat) : Int)) := by
  by_cases h : v < 0
  · obtain ⟨u, hu⟩ : ∃ u : Nat, v = -(u : Int) := ⟨v.natAbs, by omega⟩
    rw [if_pos h, if_pos h, hu, Int.neg_tmod, Int.neg_tdiv, tm (by omega), td (by omega)]
    constructor <;> omega
  · rw [if_neg h, if_neg h, tm (by omega), td (by omega)]
    constructor <;> omega
theorem fi_step (n v : Int) (s : List UInt8) (hv : -9223372036854775808 ≤ v ∧ v ≤ 9223372036854775807) (hs : s.length ≤ 1000) (h : v ≠ 0 ∨ s = []) :
    r_FromInt_s3 (n, s, v, ()) = some (.normal, (n, UInt8.ofNat (48 + v.natAbs % 10) :: s, v.tdiv 10, ())) := by
  obtain ⟨h1, h2⟩ := tdm v
  have e3 : IntKind.i64.wrap (v.tdiv 10) = v.tdiv 10 := w64 (by rw [h2]; split <;> omega)
  have e1 : v.tmod 10 < 0 → IntKind.u8.wrap (IntKind.i64.wrap ((48 : Int) + IntKind.i64.wrap (0 - v.tmod 10))) = ((48 + v.natAbs % 10 : Nat) : Int) := by
    intro hn
    rw [h1] at hn ⊢
    split at hn
    · rename_i hv0
      rw [if_pos hv0, show (0 : Int) - -((v.natAbs % 10 : Nat) : Int) = ((v.natAbs % 10 : Nat) : Int) by omega, w64 (x := ((v.natAbs % 10 : Nat) : Int)) (by omega), w64 (by omega), wu8 (by omega)]; omega
    · omega
  have e2 : ¬ v.tmod 10 < 0 → IntKind.u8.wrap (IntKind.i64.wrap ((48 : Int) + v.tmod 10)) = ((48 + v.natAbs % 10 : Nat) : Int) := by
    intro hn
    rw [h1] at hn ⊢
    split at hn
    · rename_i hv0
      rw [if_pos hv0, w64 (by omega), wu8 (by omega)]; omega
    · rename_i hv0
      rw [if_neg hv0, w64 (by omega), wu8 (by omega)]; omega
  have e4 : ([((48 + v.natAbs % 10 : Nat) : Int)] : List Int).map (fun n => UInt8.ofNat n.toNat) = [UInt8.ofNat (48 + v.natAbs % 10)] := rfl
  have e5 : ([UInt8.ofNat (48 + v.natAbs % 10)] : List UInt8).length + s.length ≤ maxS := by rw [maxS_eq]; simp; omega
  simp only [r_FromInt_s3]
  by_cases h0 : v = 0
  · rcases h with h | h
    · exact absurd h0 h
    · rw [cond_nf h0, beq_of h, cond_t, grd_ne (by decide)]
      by_cases hn : v.tmod 10 < 0
      · rw [cond_dt hn, e1 hn, e4, grd_dec e5, grd_ne (by decide), e3]; rfl
      · rw [cond_df hn, e2 hn, e4, grd_dec e5, grd_ne (by decide), e3]; rfl
  · rw [cond_nt h0, grd_ne (by decide)]
    by_cases hn : v.tmod 10 < 0
    · rw [cond_dt hn, e1 hn, e4, grd_dec e5, grd_ne (by decide), e3]; rfl
    · rw [cond_df hn, e2 hn, e4, grd_dec e5, grd_ne (by decide), e3]; rfl
theorem dd_app (v : Nat) (s : List UInt8) (h : v / 10 ≠ 0) : dd (v / 10) ++ UInt8.ofNat (48 + v % 10) :: s = dd v ++ s := by
  rw [dd_big (n := v) (by omega)]; simp
theorem r_fromInt_eq {n : Int} (h : in64 n) : r_FromInt n = some ((txt (n : Rat), ()), ()) := by
  have hn : -9223372036854775808 ≤ n ∧ n ≤ 9223372036854775807 := h
  have hl : (dd n.natAbs).length ≤ 20 := dd_lt_len (by have : n.natAbs ≤ 9223372036854775808 := by omega
                                                       omega) (by decide)
  obtain ⟨r, hr, v, rfl⟩ := loopO_ind (step := r_FromInt_s3) (Q := fun r => ∃ v, r = (Ex.exit 0, (n, dd n.natAbs, v, ())))
    (fun k x => ∃ v s, x = (n, s, v, ()) ∧ (-9223372036854775808 ≤ v ∧ v ≤ 9223372036854775807) ∧ ((s = [] ∧ v = n ∧ k = n.natAbs + 1) ∨ (s ≠ [] ∧ k = v.natAbs ∧ (if v = 0 then s else dd v.natAbs ++ s) = dd n.natAbs))) (by
      rintro k x ⟨v, s, rfl, hv, hI⟩
      obtain ⟨h1, h2⟩ := tdm v
      by_cases hgo : v ≠ 0 ∨ s = []
      · have hs : s.length ≤ 1000 := by
          rcases hI with ⟨rfl, _⟩ | ⟨_, _, hc⟩
          · simp
          · have := congrArg List.length hc
            split at this <;> (try rw [List.length_append] at this) <;> omega
        refine .inr ⟨v.natAbs / 10, _, fi_step n v s hv hs hgo, ?_, v.tdiv 10, _, rfl, ?_, .inr ⟨by simp, ?_, ?_⟩⟩
        · rcases hI with ⟨_, e, rfl⟩ | ⟨hne, rfl, _⟩
          · rw [e]; omega
          · rcases hgo with hgo | hgo
            · omega
            · exact absurd hgo hne
        · rw [h2]; split <;> omega
        · rw [h2]; split <;> omega
        · have hz : (v.tdiv 10 = 0) ↔ v.natAbs / 10 = 0 := by rw [h2]; split <;> omega
          have ha : (v.tdiv 10).natAbs = v.natAbs / 10 := by rw [h2]; split <;> omega
          have key : (if v.tdiv 10 = 0 then UInt8.ofNat (48 + v.natAbs % 10) :: s else dd (v.tdiv 10).natAbs ++ UInt8.ofNat (48 + v.natAbs % 10) :: s) = dd v.natAbs ++ s := by
            by_cases hq : v.natAbs / 10 = 0
            · rw [if_pos (hz.2 hq), dd_small (n := v.natAbs) (by omega), show v.natAbs % 10 = v.natAbs by omega]; rfl
            · rw [if_neg (fun e => hq (hz.1 e)), ha, dd_app _ _ hq]
          rw [key]
          rcases hI with ⟨rfl, rfl, _⟩ | ⟨hne, _, hc⟩
          · simp
          · rcases hgo with hgo | hgo
            · rw [if_neg hgo] at hc; exact hc
            · exact absurd hgo hne
      · have hv0 : v = 0 := Classical.byContradiction fun e => hgo (.inl e)
        have hs0 : s ≠ [] := fun e => hgo (.inr e)
        rcases hI with ⟨e, _⟩ | ⟨_, _, hc⟩
        · exact absurd e hs0
        · rw [if_pos hv0] at hc
          subst hv0
          refine .inl ⟨_, ?_, ?_, 0, rfl⟩
          · simp only [r_FromInt_s3]
            rw [cond_nf rfl, beq_ne hs0, cond_f, hc]
          · simp) _ (n, [], n, ()) ⟨n, [], rfl, hn, .inl ⟨rfl, rfl, rfl⟩⟩
  unfold r_FromInt
  rw [hr, bind_some']
  simp only
  rw [same_ee, cond_t, txt_int]
  by_cases h0 : n < 0
  · rw [cond_dt h0, if_pos h0, grd_dec (by rw [maxS_eq]; simp; omega)]
  · rw [cond_df h0, if_neg h0]; rfl

theorem g_mod_eq (v : Int) {n : Int} (h : 0 < n ∧ n ≤ 9223372036854775807) : ∃ r, g_Mod v n = some ((r, ()), ()) ∧ 0 ≤ r ∧ r < n := by
  have hu := u64_range v
  unfold g_Mod
  rw [wu64 (x := n) (by omega), grd_ne (by omega), tm hu.1]
  have h1 := Int.emod_nonneg (IntKind.u64.wrap v) (show n ≠ 0 by omega)
  have h2 := Int.emod_lt_of_pos (IntKind.u64.wrap v) h.1
  exact ⟨_, by rw [w64 (by omega)], h1, h2⟩

def CI (c : List Int × Int) : Prop := 0 ≤ c.2 ∧ c.2 ≤ c.1.length ∧ c.1.length ≤ 400
theorem g_new_eq (l : List Int) : ∃ c, g_New l = some ((c, ()), ()) ∧ CI c := by
  unfold g_New
  have h : minA (l.length : Int) 400 = ((min l.length 400 : Nat) : Int) := by rw [minA_def]; split <;> omega
  rw [h, grd_and, grd_dec (by omega), grd_dec (by omega)]
  exact ⟨_, rfl, by refine ⟨by simp, by simp, ?_⟩; simp; omega⟩
theorem g_next_eq {c : List Int × Int} (hc : CI c) {n : Int} (h : 0 < n ∧ n ≤ 9223372036854775807) : ∃ r c', g_Choices_Next c n = some ((r, ()), (c', ())) ∧ CI c' ∧ 0 ≤ r ∧ r < n := by
  obtain ⟨h1, h2, h3⟩ := hc
  unfold g_Choices_Next
  by_cases hd : c.2 ≥ (c.1.length : Int)
  · rw [cond_dt hd]; exact ⟨_, _, rfl, ⟨h1, h2, h3⟩, by omega, by omega⟩
  · have hw : IntKind.i64.wrap (c.2 + 1) = c.2 + 1 := w64 (by omega)
    have hw2 : IntKind.i64.wrap (c.2 + 1 - 1) = c.2 := by rw [w64 (by omega)]; omega
    rw [cond_df hd, hw, hw2, grd_and, grd_dec h1, grd_dec (by omega)]
    obtain ⟨r, hr, r1, r2⟩ := g_mod_eq (c.1.getD c.2.toNat 0) h
    rw [hr, bind_some']
    exact ⟨r, (c.1, c.2 + 1), rfl, ⟨by simp only; omega, by simp only; omega, h3⟩, r1, r2⟩
theorem D_small {n : Int} (h : n.natAbs < 100000000000000000000) : D (n : Rat) ≤ 21 := by
  rw [D_int]; have := dd_lt_len (n := n.natAbs) (k := 20) (by omega) (by decide); omega
theorem g_integer_eq {c : List Int × Int} (hc : CI c) : ∃ (z : Int) (c' : List Int × Int), g_Choices_Integer c = some ((txt (z : Rat), ()), (c', ())) ∧ CI c' ∧ D (z : Rat) ≤ 50 := by
  unfold g_Choices_Integer
  obtain ⟨r1, c1, e1, hc1, a1, b1⟩ := g_next_eq hc (n := 8) (by omega)
  have e1' : g_Choices_Next (c.1, c.2) 8 = some ((r1, ()), (c1, ())) := e1
  rw [e1', bind_some']
  simp only
  by_cases h6 : r1 = 6
  · rw [cond_et h6]
    obtain ⟨r2, c2, e2, hc2, a2, b2⟩ := g_next_eq hc1 (n := 2001) (by omega)
    have e2' : g_Choices_Next (c1.1, c1.2) 2001 = some ((r2, ()), (c2, ())) := e2
    rw [e2', bind_some']
    simp only
    rw [w64 (by omega), r_fromInt_eq (show in64 _ from ⟨by omega, by omega⟩), bind_some']
    exact ⟨_, _, rfl, hc2, Nat.le_trans (D_small (by omega)) (by omega)⟩
  · rw [cond_ef h6]
    by_cases h7 : r1 = 7
    · rw [cond_et h7]
      obtain ⟨r2, c2, e2, hc2, a2, b2⟩ := g_next_eq hc1 (n := 1099511627776) (by omega)
      have e2' : g_Choices_Next (c1.1, c1.2) 1099511627776 = some ((r2, ()), (c2, ())) := e2
      rw [e2', bind_some']
      simp only
      rw [w64 (by omega), r_fromInt_eq (show in64 _ from ⟨by omega, by omega⟩), bind_some']
      obtain ⟨r3, c3, e3, hc3, a3, b3⟩ := g_next_eq hc2 (n := 1099511627776) (by omega)
      have e3' : g_Choices_Next (c2.1, c2.2) 1099511627776 = some ((r3, ()), (c3, ())) := e3
      rw [e3', bind_some']
      simp only
      rw [r_fromInt_eq (show in64 _ from ⟨by omega, by omega⟩), bind_some']
      simp only
      have d1 := D_small (n := r2 - 549755813888) (by omega)
      have d2 := D_small (n := r3) (by omega)
      have l1 := txt_len ((r2 - 549755813888 : Int) : Rat)
      have l2 := txt_len ((r3 : Int) : Rat)
      rw [r_mul_eq' (by omega) (by omega), bin_txt, bind_some']
      have d3 := D_mul ((r2 - 549755813888 : Int) : Rat) ((r3 : Int) : Rat)
      rw [← Rat.intCast_mul] at d3 ⊢
      exact ⟨_, _, rfl, hc3, by omega⟩
    · rw [cond_ef h7]
      obtain ⟨r2, c2, e2, hc2, a2, b2⟩ := g_next_eq hc1 (n := 9) (by omega)
      have e2' : g_Choices_Next (c1.1, c1.2) 9 = some ((r2, ()), (c2, ())) := e2
      rw [e2', bind_some']
      simp only
      rw [w64 (by omega), r_fromInt_eq (show in64 _ from ⟨by omega, by omega⟩), bind_some']
      exact ⟨_, _, rfl, hc2, Nat.le_trans (D_small (by omega)) (by omega)⟩
end Go.AM.Num
end
section
set_option linter.unusedSimpArgs false
set_option linter.unusedVariables false
namespace Go.AM.Num

theorem t0 : ([48] : List UInt8) = txt ((0 : Int) : Rat) := txt_zero.symm
theorem t1 : ([49] : List UInt8) = txt ((1 : Int) : Rat) := by rw [txt_int]; simp [dd_one]
end Go.AM.Num
end
section
namespace Go.AM.Num

theorem loop_find {α : Type} {step : α → Option (Ex × α)} (St : Nat → α) (n : Nat) {E : Ex} (hE : E ≠ .normal) (stop : Nat → Option (Ex × α)) (hs : ∀ k r, stop k = some r → r.1 ≠ .normal)
    (h : ∀ k, k < n → step (St k) = some ((stop k).getD (.normal, St (k + 1)))) (he : step (St n) = some (E, St n)) : ∀ j k, k + j = n → loopO step (St k) = some (((List.range' k j).findSome? stop).getD (E, St n)) := by
  intro j
  induction j with
  | zero => intro k hk; obtain rfl : k = n := by omega
            exact loopO_end he hE
  | succ j ih =>
    intro k hk
    have h1 := h k (by omega)
    rw [List.range'_succ, List.findSome?_cons]
    cases hst : stop k with
    | none =>
      rw [hst] at h1
      rw [loopO_go h1, ih (k + 1) (by omega)]
    | some r =>
      rw [hst] at h1
      exact loopO_end h1 (hs k r hst)

theorem loop_all {α : Type} {step : α → Option (Ex × α)} (St bad : Nat → α) (n : Nat) {E B : Ex} (hE : E ≠ .normal) (hB : B ≠ .normal) (ok : Nat → Bool)
    (h : ∀ k, k < n → step (St k) = some (if ok k then (.normal, St (k + 1)) else (B, bad k))) (he : step (St n) = some (E, St n)) :
    ((List.range n).all ok = true ∧ loopO step (St 0) = some (E, St n)) ∨ ((List.range n).all ok = false ∧ ∃ k, loopO step (St 0) = some (B, bad k)) := by
  have := loop_find St n hE (fun k => if ok k then none else some (B, bad k)) (fun k r hr => by
    split at hr
    · cases hr
    · cases hr; exact hB) (fun k hk => by rw [h k hk]; split <;> rfl) he n 0 (by omega)
  rw [← List.range_eq_range'] at this
  cases hf : (List.range n).findSome? (fun k => if ok k then none else some (B, bad k)) with
  | none =>
    rw [hf] at this
    refine .inl ⟨?_, this⟩
    rw [List.findSome?_eq_none_iff] at hf
    rw [List.all_eq_true]
    intro k hk
    have := hf k hk
    split at this
    · assumption
    · cases this
  | some r =>
    rw [hf] at this
    obtain ⟨k, hk, hr⟩ := List.exists_of_findSome?_eq_some hf
    split at hr
    · cases hr
    · rename_i hn
      cases hr
      refine .inr ⟨?_, k, this⟩
      rw [List.all_eq_false]
      exact ⟨k, hk, hn⟩


structure Short (N : Nat) (v : Val) : Prop where
  num : v.2.2.1.length ≤ N
  keys : ∀ s ∈ v.2.2.2.1, s.length ≤ N
  vals : ∀ s ∈ v.2.2.2.2, s.length ≤ N
  few : v.2.2.2.1.length ≤ 1000000000 ∧ v.2.2.2.2.length ≤ 1000000000
theorem getD_mem {l : List (List UInt8)} {k N : Nat} (h : ∀ s ∈ l, s.length ≤ N) : (l.getD k []).length ≤ N := by
  rw [List.getD_eq_getElem?_getD]
  cases hk : l[k]? with
  | none => simp
  | some s => exact h s (List.mem_of_getElem? hk)
noncomputable def okAt (num : List UInt8) (ks vs : List (List UInt8)) (i : Nat) : Bool := isI (ks.getD i []) && isI (vs.getD i []) && !(vs.getD i [] == num) && (decide (i = 0) || decide (sCmp (ks.getD (i - 1) []) (ks.getD i []) < 0))
noncomputable def elemsB (num : List UInt8) (ks vs : List (List UInt8)) : Bool := (List.range ks.length).all (okAt num ks vs)
def simpleV (v : Val) : Bool := decide (v.2.2.2.1.length = 0) && decide (v.2.2.2.2.length = 0)
noncomputable def validV (v : Val) : Bool :=
  if v.1 = 1 then v.2.2.1 == [] && simpleV v
  else if v.1 = 2 then !v.2.1 && isI v.2.2.1 && simpleV v
  else if v.1 = 3 then !v.2.1 && (rd v.2.2.1).isSome && simpleV v
  else if v.1 = 4 then !v.2.1 && isI v.2.2.1 && decide (v.2.2.2.1.length = v.2.2.2.2.length) && elemsB v.2.2.1 v.2.2.2.1 v.2.2.2.2
  else false
theorem v_simple_eq (v : Val) : v_simple v = some ((simpleV v, ()), ()) := by
  unfold v_simple simpleV
  by_cases h : v.2.2.2.1.length = 0
  · rw [cond_et (by omega), decide_eq_true h, Bool.true_and]
    congr 3
    by_cases h2 : v.2.2.2.2.length = 0 <;> simp [h2]
  · rw [cond_ef (by omega), decide_eq_false h, Bool.false_and]
theorem v_elements_eq {N : Nat} (hN : N ≤ 100000) {v : Val} (hv : Short N v) : v_elements v = some ((decide (v.2.2.2.1.length = v.2.2.2.2.length) && elemsB v.2.2.1 v.2.2.2.1 v.2.2.2.2, ()), ()) := by
  obtain ⟨s, b, num, ks, vs⟩ := v
  have hk := hv.keys; have hw := hv.vals; have hf := hv.few
  simp only at hk hw hf ⊢
  unfold v_elements
  simp only
  by_cases hl : ks.length = vs.length
  · rw [cond_nf (by omega), decide_eq_true hl, Bool.true_and]
    have hik : ∀ k, n_IsInt (ks.getD k []) = some ((isI (ks.getD k []), ()), ()) := fun k => isInt_eq (by have := getD_mem (k := k) hk; omega)
    have hiv : ∀ k, n_IsInt (vs.getD k []) = some ((isI (vs.getD k []), ()), ()) := fun k => isInt_eq (by have := getD_mem (k := k) hw; omega)
    have hc : ∀ k j, n_Cmp (ks.getD k []) (ks.getD j []) = some ((sCmp (ks.getD k []) (ks.getD j []), ()), ()) := fun k j => cmp_eq' (by have := getD_mem (k := k) hk; omega) (by have := getD_mem (k := j) hk; omega)
    have := loop_all (step := v_elements_s4) (fun k => ((s, b, num, ks, vs), false, ks, (ks.length : Int), (k : Int), ())) (fun k => ((s, b, num, ks, vs), false, ks, (ks.length : Int), (k : Int), ())) ks.length (E := .exit 0) (B := .ret) (by simp) (by simp) (okAt num ks vs) (fun k hk' => by
      unfold v_elements_s4
      simp only
      rw [cond_dt (by omega), grd_and, grd_dec (by omega), grd_dec (by omega), Int.toNat_natCast, hik, bind_some', grd_and, grd_dec (by omega), grd_dec (by omega), hiv, bind_some', grd_and, grd_dec (by omega), grd_dec (by omega)]
      unfold okAt
      cases isI (ks.getD k []) with
      | false => rfl
      | true =>
        cases isI (vs.getD k []) with
        | false => rfl
        | true =>
          cases (vs.getD k [] == num) with
          | true => rfl
          | false =>
            simp only [Bool.not_true, Bool.not_false, cond_f, Bool.true_and]
            rw [w64 (x := (k : Int) + 1) (by omega)]
            by_cases h0 : k = 0
            · subst h0
              rw [cond_df (by omega)]
              rfl
            · rw [cond_dt (by omega), w64 (by omega), grd_and, grd_dec (by omega), grd_dec (by omega)]
              have e : ((k : Int) - 1).toNat = k - 1 := by omega
              rw [e, hc, bind_some', decide_eq_false h0, Bool.false_or]
              by_cases hs : sCmp (ks.getD (k - 1) []) (ks.getD k []) < 0
              · rw [cond_df (by simp only; omega), if_pos (decide_eq_true hs)]
                rfl
              · rw [cond_dt (by simp only; omega), if_neg (by rw [decide_eq_false hs]; exact Bool.false_ne_true)]) (by
      unfold v_elements_s4
      simp only
      rw [cond_df (by omega)])
    rcases this with ⟨h1, h2⟩ | ⟨h1, k, h2⟩
    · rw [show ((0 : Nat) : Int) = 0 from rfl] at h2
      rw [h2]
      simp only [bind_some', same_ee, cond_t, elemsB, h1]
    · rw [show ((0 : Nat) : Int) = 0 from rfl] at h2
      rw [h2]
      simp only [bind_some', same_re, same_rr, cond_t, cond_f, elemsB, h1]
  · rw [cond_nt (by omega), decide_eq_false hl, Bool.false_and]
theorem v_valid_eq {N : Nat} (hN : N ≤ 100000) {v : Val} (hv : Short N v) : v_Valid v = some ((validV v, ()), ()) := by
  have h1 : n_IsInt v.2.2.1 = some ((isI v.2.2.1, ()), ()) := isInt_eq (by have := hv.num; omega)
  have h2 : n_Valid v.2.2.1 = some (((rd v.2.2.1).isSome, ()), ()) := valid_eq (by have := hv.num; omega)
  unfold v_Valid validV
  rw [v_simple_eq, v_elements_eq hN hv, h1, h2]
  simp only [bind_some']
  by_cases e1 : v.1 = 1
  · rw [cond_et e1, if_pos e1]; cases (v.2.2.1 == ([] : List UInt8)) <;> rfl
  · rw [cond_ef e1, if_neg e1]
    by_cases e2 : v.1 = 2
    · rw [cond_et e2, if_pos e2]; cases v.2.1 <;> cases isI v.2.2.1 <;> rfl
    · rw [cond_ef e2, if_neg e2]
      by_cases e3 : v.1 = 3
      · rw [cond_et e3, if_pos e3]; cases v.2.1 <;> cases (rd v.2.2.1).isSome <;> rfl
      · rw [cond_ef e3, if_neg e3]
        by_cases e4 : v.1 = 4
        · rw [cond_et e4, if_pos e4]; cases v.2.1 <;> cases isI v.2.2.1 <;> simp [cond_t, cond_f]
        · rw [cond_ef e4, if_neg e4]
theorem r_elements {N : Nat} (hN : N ≤ 100000) {v : Val} (hv : Short N v) (hl : v.2.2.2.1.length = v.2.2.2.2.length) :
    (elemsB v.2.2.1 v.2.2.2.1 v.2.2.2.2 = true ∧ loopO r_ValidValue_s14 (v, false, 0, ()) = some (.exit 1, v, false, (v.2.2.2.1.length : Int), ())) ∨ (elemsB v.2.2.1 v.2.2.2.1 v.2.2.2.2 = false ∧ ∃ k : Nat, loopO r_ValidValue_s14 (v, false, 0, ()) = some (.ret, v, false, (k : Int), ())) := by
  obtain ⟨s, b, num, ks, vs⟩ := v
  have hk := hv.keys; have hw := hv.vals; have hf := hv.few
  simp only at hk hw hf hl ⊢
  have hik : ∀ k, r_IsInt (ks.getD k []) = some ((isI (ks.getD k []), ()), ()) := fun k => r_isInt_eq (by have := getD_mem (k := k) hk; omega)
  have hiv : ∀ k, r_IsInt (vs.getD k []) = some ((isI (vs.getD k []), ()), ()) := fun k => r_isInt_eq (by have := getD_mem (k := k) hw; omega)
  have hc : ∀ k j, r_Cmp (ks.getD k []) (ks.getD j []) = some ((sCmp (ks.getD k []) (ks.getD j []), ()), ()) := fun k j => r_cmp_eq' (by have := getD_mem (k := k) hk; omega) (by have := getD_mem (k := j) hk; omega)
  exact loop_all (step := r_ValidValue_s14) (fun k => ((s, b, num, ks, vs), false, (k : Int), ())) (fun k => ((s, b, num, ks, vs), false, (k : Int), ())) ks.length (E := .exit 1) (B := .ret) (by simp) (by simp) (okAt num ks vs) (fun k hk' => by
      unfold r_ValidValue_s14
      simp only
      rw [cond_dt (by omega), grd_and, grd_dec (by omega), grd_dec (by omega), Int.toNat_natCast, hik, bind_some', grd_and, grd_dec (by omega), grd_dec (by omega), hiv, bind_some', grd_and, grd_dec (by omega), grd_dec (by omega)]
      unfold okAt
      cases isI (ks.getD k []) with
      | false => rfl
      | true =>
        cases isI (vs.getD k []) with
        | false => rfl
        | true =>
          cases (vs.getD k [] == num) with
          | true => rfl
          | false =>
            simp only [Bool.not_true, Bool.not_false, cond_f, Bool.true_and]
            rw [w64 (x := (k : Int) + 1) (by omega)]
            by_cases h0 : k = 0
            · subst h0
              rw [cond_df (by omega)]
              rfl
            · rw [cond_dt (by omega), w64 (by omega), grd_and, grd_dec (by omega), grd_dec (by omega), grd_and, grd_dec (by omega), grd_dec (by omega)]
              have e : ((k : Int) - 1).toNat = k - 1 := by omega
              rw [e, hc, bind_some', decide_eq_false h0, Bool.false_or]
              by_cases hs : sCmp (ks.getD (k - 1) []) (ks.getD k []) < 0
              · rw [cond_df (by simp only; omega), if_pos (decide_eq_true hs)]
                rfl
              · rw [cond_dt (by simp only; omega), if_neg (by rw [decide_eq_false hs]; exact Bool.false_ne_true)]) (by
      unfold r_ValidValue_s14
      simp only
      rw [cond_df (by omega)])
end Go.AM.Num
end
section
namespace Go.AM.Num
theorem v_awake_eq : l_awake = some ((true, ()), ()) := by kernel_rfl
end Go.AM.Num
end
section
namespace Go.AM.Num

def ti (z : Int) : List UInt8 := txt (z : Rat)
theorem ti_inj {a b : Int} (h : ti a = ti b) : a = b := by
  have := txt_inj h
  exact_mod_cast this
abbrev KV := List (Int × Int)
def lo (i : Int) (P : KV) : KV := P.filter fun p => decide (p.1 < i)
def hi (i : Int) (P : KV) : KV := P.filter fun p => decide (i < p.1)
def Incr (P : KV) : Prop := P.Pairwise fun a b => a.1 < b.1
structure Canon (d : Int) (P : KV) : Prop where
  incr : Incr P
  vals : ∀ p ∈ P, p.2 ≠ d
def atP (d : Int) (P : KV) (i : Int) : Int := ((P.find? fun p => decide (p.1 = i)).map (·.2)).getD d
def stP (d : Int) (P : KV) (i n : Int) : KV := lo i P ++ (if n = d then [] else [(i, n)]) ++ hi i P
theorem lo_mem {i : Int} {P : KV} {p : Int × Int} : p ∈ lo i P ↔ p ∈ P ∧ p.1 < i := by simp [lo]
theorem hi_mem {i : Int} {P : KV} {p : Int × Int} : p ∈ hi i P ↔ p ∈ P ∧ i < p.1 := by simp [hi]
theorem split3 (i : Int) : ∀ {P : KV}, Incr P → ∃ m, P = lo i P ++ m ++ hi i P ∧ (m = [] ∨ ∃ w, m = [(i, w)]) := by
  intro P
  induction P with
  | nil => intro _; exact ⟨[], rfl, .inl rfl⟩
  | cons p P ih =>
    intro h
    obtain ⟨hp, hP⟩ := List.pairwise_cons.1 h
    obtain ⟨m, e, hm⟩ := ih hP
    by_cases h1 : p.1 < i
    · refine ⟨m, ?_, hm⟩
      have a1 : lo i (p :: P) = p :: lo i P := by simp [lo, h1]
      have a2 : hi i (p :: P) = hi i P := by simp [hi, show ¬ i < p.1 by omega]
      rw [a1, a2, List.cons_append, List.cons_append, ← e]
    · have e1 : lo i P = [] := List.filter_eq_nil_iff.2 fun q hq => by have := hp q hq; simp; omega
      have e2 : hi i P = P := List.filter_eq_self.2 fun q hq => by have := hp q hq; simp; omega
      have a1 : lo i (p :: P) = [] := by simp [lo, h1]; intro a b hab; have := hp _ hab; simp at this; omega
      by_cases h2 : p.1 = i
      · refine ⟨[p], ?_, .inr ⟨p.2, by rw [← h2]⟩⟩
        have a2 : hi i (p :: P) = P := by rw [← e2]; simp [hi, show ¬ i < p.1 by omega]
        rw [a1, a2]; rfl
      · refine ⟨[], ?_, .inl rfl⟩
        have a2 : hi i (p :: P) = p :: P := by
          have : hi i (p :: P) = p :: hi i P := by simp [hi, show i < p.1 by omega]
          rw [this, e2]
        rw [a1, a2]; rfl
theorem atP_nil {d i : Int} {P : KV} (h : ∀ p ∈ P, p.1 ≠ i) : atP d P i = d := by
  unfold atP
  rw [List.find?_eq_none.2 (fun p hp => by simp [h p hp])]
  rfl
theorem atP_app {d i : Int} {P Q : KV} (h : ∀ p ∈ P, p.1 ≠ i) : atP d (P ++ Q) i = atP d Q i := by
  unfold atP
  rw [List.find?_append, List.find?_eq_none.2 (fun p hp => by simp [h p hp])]
  rfl
theorem atP_hit {d i w : Int} {Q : KV} : atP d ((i, w) :: Q) i = w := by simp [atP]
theorem atP_miss {d i j w : Int} {Q : KV} (h : j ≠ i) : atP d ((j, w) :: Q) i = atP d Q i := by simp [atP, h]

theorem atP_parts {d i : Int} {L m H : KV} (hL : ∀ p ∈ L, p.1 < i) (hH : ∀ p ∈ H, i < p.1) (hm : m = [] ∨ ∃ w, m = [(i, w)]) : atP d (L ++ m ++ H) i = (m.head?.map (·.2)).getD d := by
  rw [List.append_assoc, atP_app (fun p hp => by have := hL p hp; omega)]
  rcases hm with rfl | ⟨w, rfl⟩
  · exact atP_nil fun p hp => by have := hH p hp; omega
  · exact atP_hit
theorem stP_canon {d : Int} {P : KV} (h : Canon d P) (i n : Int) : Canon d (stP d P i n) := by
  refine ⟨?_, ?_⟩
  · unfold Incr stP
    rw [List.pairwise_append, List.pairwise_append]
    refine ⟨⟨List.Pairwise.filter _ h.incr, by split <;> simp, fun a ha b hb => ?_⟩, List.Pairwise.filter _ h.incr, fun a ha b hb => ?_⟩
    · have := (lo_mem.1 ha).2
      split at hb
      · simp at hb
      · simp at hb; subst hb; exact this
    · have hb' := (hi_mem.1 hb).2
      rcases List.mem_append.1 ha with ha | ha
      · have := (lo_mem.1 ha).2; omega
      · split at ha
        · simp at ha
        · simp at ha; subst ha; exact hb'
  · intro p hp
    unfold stP at hp
    rcases List.mem_append.1 hp with hp | hp
    · rcases List.mem_append.1 hp with hp | hp
      · exact h.vals p (lo_mem.1 hp).1
      · split at hp
        · simp at hp
        · simp at hp; subst hp; assumption
    · exact h.vals p (hi_mem.1 hp).1
theorem atP_mem {d : Int} {P : KV} (h : Incr P) : ∀ {p}, p ∈ P → atP d P p.1 = p.2 := by
  intro p hp
  induction P with
  | nil => cases hp
  | cons q Q ih =>
    obtain ⟨hq, hQ⟩ := List.pairwise_cons.1 h
    rcases List.mem_cons.1 hp with rfl | hp'
    · exact atP_hit
    · have := hq p hp'
      obtain ⟨a, b⟩ := q
      rw [atP_miss (by simp at this; omega)]
      exact ih hQ hp'

theorem canon_ext {d : Int} {P Q : KV} (hP : Canon d P) (hQ : Canon d Q) (h : ∀ i, atP d P i = atP d Q i) : P = Q := by
  have sub : ∀ {P Q : KV}, Canon d P → Canon d Q → (∀ i, atP d P i = atP d Q i) → ∀ p ∈ P, p ∈ Q := by
    intro P Q hP hQ h p hp
    have h1 := atP_mem (d := d) hP.incr hp
    rw [h p.1] at h1
    unfold atP at h1
    cases hf : Q.find? fun q => decide (q.1 = p.1) with
    | none => rw [hf] at h1; exact absurd h1.symm (hP.vals p hp)
    | some q =>
      rw [hf] at h1
      have hm := List.mem_of_find?_eq_some hf
      have hk := List.find?_some hf
      simp at hk h1
      have : q = p := Prod.ext hk h1
      exact this ▸ hm
  have hpq := sub hP hQ h
  have hqp := sub hQ hP fun i => (h i).symm
  clear h sub
  induction P generalizing Q with
  | nil => cases Q with
    | nil => rfl
    | cons q Q => exact absurd (hqp q (by simp)) (by simp)
  | cons p P ih =>
    cases Q with
    | nil => exact absurd (hpq p (by simp)) (by simp)
    | cons q Q =>
      obtain ⟨h1, h2⟩ := List.pairwise_cons.1 hP.incr
      obtain ⟨h3, h4⟩ := List.pairwise_cons.1 hQ.incr
      have e : p = q := by
        rcases List.mem_cons.1 (hpq p (by simp)) with e | e
        · exact e
        · rcases List.mem_cons.1 (hqp q (by simp)) with e' | e'
          · exact e'.symm
          · have := h3 p e; have := h1 q e'; omega
      subst e
      rw [ih ⟨h2, fun x hx => hP.vals x (List.mem_cons_of_mem _ hx)⟩ ⟨h4, fun x hx => hQ.vals x (List.mem_cons_of_mem _ hx)⟩]
      · intro x hx
        rcases List.mem_cons.1 (hpq x (List.mem_cons_of_mem _ hx)) with e | e
        · subst e; have := h1 x hx; omega
        · exact e
      · intro x hx
        rcases List.mem_cons.1 (hqp x (List.mem_cons_of_mem _ hx)) with e | e
        · subst e; have := h3 x hx; omega
        · exact e
end Go.AM.Num
end
section
namespace Go.AM.Num
def ks (P : KV) : List (List UInt8) := P.map fun p => ti p.1
def vs (P : KV) : List (List UInt8) := P.map fun p => ti p.2
abbrev arrV (d : Int) (P : KV) : Val := (4, false, ti d, ks P, vs P)
theorem ks_len (P : KV) : (ks P).length = P.length := by simp [ks]
theorem vs_len (P : KV) : (vs P).length = P.length := by simp [vs]
theorem ks_get {P : KV} {k : Nat} (h : k < P.length) : (ks P).getD k [] = ti P[k].1 := by simp [ks, List.getD_eq_getElem?_getD, h]
theorem vs_get {P : KV} {k : Nat} (h : k < P.length) : (vs P).getD k [] = ti P[k].2 := by simp [vs, List.getD_eq_getElem?_getD, h]
theorem sCmp_ti (a b : Int) : sCmp (ti a) (ti b) = (a - b).sign := by
  unfold sCmp ti
  rw [rd_txt, rd_txt]
  simp only
  rw [← Rat.intCast_sub, Rat.num_intCast]
theorem sign_lt {x : Int} : x.sign < 0 ↔ x < 0 := by
  rcases Int.lt_trichotomy x 0 with h | h | h
  · rw [Int.sign_eq_neg_one_of_neg h]; omega
  · subst h; simp
  · rw [Int.sign_eq_one_of_pos h]; omega
theorem sign_z {x : Int} : (x.sign == 0) = decide (x = 0) := by
  rcases Int.lt_trichotomy x 0 with h | h | h
  · rw [Int.sign_eq_neg_one_of_neg h, decide_eq_false (by omega)]; rfl
  · subst h; rfl
  · rw [Int.sign_eq_one_of_pos h, decide_eq_false (by omega)]; rfl
theorem isI_ti (a : Int) : isI (ti a) = true := isI_int a
theorem arr_valid {d : Int} {P : KV} (h : Canon d P) : validV (arrV d P) = true := by
  unfold validV arrV
  simp only [show ¬ (4 : Int) = 1 by omega, show ¬ (4 : Int) = 2 by omega, show ¬ (4 : Int) = 3 by omega, if_false, if_true, Bool.and_eq_true, Bool.not_eq_true', decide_eq_true_eq, elemsB, List.all_eq_true, List.mem_range, okAt, Bool.or_eq_true, beq_eq_false_iff_ne, ks_len, vs_len, isI_ti, true_and]
  intro i hi
  rw [ks_get hi, vs_get hi]
  refine ⟨⟨⟨isI_ti _, isI_ti _⟩, fun e => h.vals _ (List.getElem_mem hi) (ti_inj e)⟩, ?_⟩
  by_cases h0 : i = 0
  · exact .inl h0
  · refine .inr ?_
    rw [ks_get (by omega), sCmp_ti]
    have := List.pairwise_iff_getElem.1 h.incr (i - 1) i (by omega) hi (by omega)
    rw [Int.sign_eq_neg_one_of_neg (by omega)]
    omega

theorem bs_loop {K : List (List UInt8)} {t : List UInt8} {c : Nat} (hl : K.length ≤ 1000000000) (hc : ∀ k, k < K.length → ∃ s : Int, n_Cmp (K.getD k []) t = some ((s, ()), ()) ∧ (s < 0 ↔ k < c)) :
    ∀ n lo hi : Nat, hi - lo ≤ n → lo ≤ c → c ≤ hi → hi ≤ K.length → loopO slices_BinarySearchFunc_string_string_string_n_Cmp_s3 (K, t, (), (K.length : Int), (lo : Int), (hi : Int), ()) = some (.exit 0, (K, t, (), (K.length : Int), (c : Int), (c : Int), ())) := by
  have done : ∀ lo hi : Nat, lo ≤ c → c ≤ hi → ¬ lo < hi → loopO slices_BinarySearchFunc_string_string_string_n_Cmp_s3 (K, t, (), (K.length : Int), (lo : Int), (hi : Int), ()) = some (.exit 0, (K, t, (), (K.length : Int), (c : Int), (c : Int), ())) := by
    intro lo hi h1 h2 h3
    obtain rfl : lo = c := by omega
    obtain rfl : hi = lo := by omega
    refine loopO_end ?_ (by simp)
    unfold slices_BinarySearchFunc_string_string_string_n_Cmp_s3
    simp only
    rw [cond_df (by omega)]
  intro n
  induction n with
  | zero => intro lo hi h1 h2 h3 h4; exact done lo hi h2 h3 (by omega)
  | succ n ih =>
    intro lo hi h1 h2 h3 h4
    by_cases hlt : lo < hi
    · have hE : IntKind.i64.wrap ((IntKind.u64.wrap (IntKind.i64.wrap ((lo : Int) + (hi : Int)))).fdiv (2 ^ min (1 : Int).toNat IntKind.u64.bits)) = (((lo + hi) / 2 : Nat) : Int) := by
        have e2 : (2 : Int) ^ min (1 : Int).toNat IntKind.u64.bits = 2 := by decide
        rw [e2, w64 (x := (lo : Int) + hi) (by omega), wu64 (by omega), Int.fdiv_eq_ediv_of_nonneg _ (by omega), w64 (by omega)]
        omega
      obtain ⟨s, hs, hsc⟩ := hc ((lo + hi) / 2) (by omega)
      have step : slices_BinarySearchFunc_string_string_string_n_Cmp_s3 (K, t, (), (K.length : Int), (lo : Int), (hi : Int), ()) = if (lo + hi) / 2 < c then some (.normal, (K, t, (), (K.length : Int), (((lo + hi) / 2 + 1 : Nat) : Int), (hi : Int), ())) else some (.normal, (K, t, (), (K.length : Int), (lo : Int), (((lo + hi) / 2 : Nat) : Int), ())) := by
        unfold slices_BinarySearchFunc_string_string_string_n_Cmp_s3
        simp only
        rw [cond_dt (by omega), grd_dec (by omega), hE, grd_and, grd_dec (by omega), grd_dec (by omega), Int.toNat_natCast, hs, bind_some']
        simp only
        by_cases hm : (lo + hi) / 2 < c
        · rw [cond_dt (hsc.2 hm), if_pos hm, w64 (by omega)]; rfl
        · rw [cond_df (fun h => hm (hsc.1 h)), if_neg hm]
      by_cases hm : (lo + hi) / 2 < c
      · rw [if_pos hm] at step
        rw [loopO_go step]
        exact ih _ _ (by omega) (by omega) h3 h4
      · rw [if_neg hm] at step
        rw [loopO_go step]
        exact ih _ _ (by omega) h2 (by omega) (by omega)
    · exact done lo hi h2 h3 hlt
theorem bs_eq {K : List (List UInt8)} {t : List UInt8} {c : Nat} {f : Bool} (hl : K.length ≤ 1000000000) (hcl : c ≤ K.length) (hc : ∀ k, k < K.length → ∃ s : Int, n_Cmp (K.getD k []) t = some ((s, ()), ()) ∧ (s < 0 ↔ k < c))
    (hf : c < K.length → ∃ s : Int, n_Cmp (K.getD c []) t = some ((s, ()), ()) ∧ (s == 0) = f) (hn : ¬ c < K.length → f = false) :
    slices_BinarySearchFunc_string_string_string_n_Cmp K t () = some (((c : Int), f, ()), ()) := by
  unfold slices_BinarySearchFunc_string_string_string_n_Cmp
  have := bs_loop hl hc K.length 0 K.length (by omega) (by omega) hcl (Nat.le_refl _)
  rw [show ((0 : Nat) : Int) = 0 from rfl] at this
  rw [this, bind_some']
  simp only [same_ee, cond_t]
  by_cases h : c < K.length
  · obtain ⟨s, h1, h2⟩ := hf h
    rw [cond_dt (by omega), grd_and, grd_dec (by omega), grd_dec (by omega), Int.toNat_natCast, h1, bind_some', h2]
  · rw [cond_df (by omega), hn h]
end Go.AM.Num
end
section
namespace Go.AM.Num

structure Sm (N : Nat) (d : Int) (P : KV) : Prop where
  num : (ti d).length ≤ N
  els : ∀ p ∈ P, (ti p.1).length ≤ N ∧ (ti p.2).length ≤ N
  few : P.length ≤ 1000000000
theorem Sm.short {N : Nat} {d : Int} {P : KV} (h : Sm N d P) : Short N (arrV d P) :=
  ⟨h.num, fun s hs => by obtain ⟨p, hp, rfl⟩ := List.mem_map.1 hs; exact (h.els p hp).1, fun s hs => by obtain ⟨p, hp, rfl⟩ := List.mem_map.1 hs; exact (h.els p hp).2, by simp only [arrV]; rw [ks_len, vs_len]; exact ⟨h.few, h.few⟩⟩
theorem cmp_ti {a b : Int} (ha : (ti a).length ≤ 2000000) (hb : (ti b).length ≤ 2000000) : n_Cmp (ti a) (ti b) = some (((a - b).sign, ()), ()) := by rw [cmp_eq' ha hb, sCmp_ti]
theorem rcmp_ti {a b : Int} (ha : (ti a).length ≤ 200000) (hb : (ti b).length ≤ 200000) : r_Cmp (ti a) (ti b) = some (((a - b).sign, ()), ()) := by rw [r_cmp_eq' ha hb, sCmp_ti]
theorem ti_beq (a b : Int) : (ti a == ti b) = decide (a = b) := by
  by_cases h : a = b
  · subst h; simp
  · rw [decide_eq_false h, beq_eq_false_iff_ne]; exact fun e => h (ti_inj e)

structure Parts (i : Int) (L m H : KV) : Prop where
  lo : ∀ p ∈ L, p.1 < i
  mid : m = [] ∨ ∃ w, m = [(i, w)]
  hi : ∀ p ∈ H, i < p.1
theorem parts_of {P : KV} (h : Incr P) (i : Int) : ∃ m, P = lo i P ++ m ++ hi i P ∧ Parts i (lo i P) m (hi i P) := by
  obtain ⟨m, e, hm⟩ := split3 i h
  exact ⟨m, e, fun p hp => (lo_mem.1 hp).2, hm, fun p hp => (hi_mem.1 hp).2⟩
theorem Parts.lt {i : Int} {L m H : KV} (h : Parts i L m H) {k : Nat} (hk : k < (L ++ m ++ H).length) : (L ++ m ++ H)[k].1 < i ↔ k < L.length := by
  have e : L ++ m ++ H = L ++ (m ++ H) := List.append_assoc ..
  simp only [e] at hk ⊢
  by_cases hl : k < L.length
  · rw [List.getElem_append_left hl]
    exact ⟨fun _ => hl, fun _ => h.lo _ (List.getElem_mem hl)⟩
  · rw [List.getElem_append_right (by omega)]
    refine ⟨fun hlt => ?_, fun h => absurd h hl⟩
    have hm := List.getElem_mem (l := m ++ H) (n := k - L.length) (by simp at hk ⊢; omega)
    rcases List.mem_append.1 hm with hm | hm
    · rcases h.mid with rfl | ⟨w, rfl⟩
      · cases hm
      · have := congrArg Prod.fst (List.mem_singleton.1 hm); simp only at this; omega
    · have := h.hi _ hm; omega
theorem Parts.eq {i : Int} {L m H : KV} (h : Parts i L m H) (hk : L.length < (L ++ m ++ H).length) : (L ++ m ++ H)[L.length].1 = i ↔ m ≠ [] := by
  have e : L ++ m ++ H = L ++ (m ++ H) := List.append_assoc ..
  simp only [e] at hk ⊢
  rw [List.getElem_append_right (by omega)]
  simp only [Nat.sub_self]
  rcases h.mid with rfl | ⟨w, rfl⟩
  · simp only [List.nil_append, ne_eq, not_true_eq_false, iff_false]
    have := h.hi _ (List.getElem_mem (l := H) (n := 0) (by simp at hk; omega))
    omega
  · simp
theorem place_eq {N : Nat} (hN : N ≤ 100000) {d i : Int} {L m H : KV} (h : Parts i L m H) (hs : Sm N d (L ++ m ++ H)) (hi : (ti i).length ≤ N) : v_place (arrV d (L ++ m ++ H)) (ti i) = some (((L.length : Int), decide (m ≠ []), ()), ()) := by
  have hc : ∀ k (hk : k < (L ++ m ++ H).length), n_Cmp ((ks (L ++ m ++ H)).getD k []) (ti i) = some ((((L ++ m ++ H)[k].1 - i).sign, ()), ()) := fun k hk => by
    rw [ks_get hk]
    exact cmp_ti (by have := (hs.els _ (List.getElem_mem hk)).1; omega) (by omega)
  have := bs_eq (K := ks (L ++ m ++ H)) (t := ti i) (c := L.length) (f := decide (m ≠ [])) (by rw [ks_len]; exact hs.few) (by rw [ks_len]; simp)
    (fun k hk => by
      rw [ks_len] at hk
      refine ⟨_, hc k hk, ?_⟩
      rw [sign_lt, ← h.lt hk]
      omega)
    (fun hk => by
      rw [ks_len] at hk
      refine ⟨_, hc _ hk, ?_⟩
      rw [sign_z]
      have := h.eq hk
      by_cases hm : m = []
      · rw [decide_eq_false (fun e => (this.1 (by omega)) hm), decide_eq_false (fun e => e hm)]
      · rw [decide_eq_true (by have := this.2 hm; omega), decide_eq_true hm])
    (fun hk => by
      rw [ks_len] at hk
      refine decide_eq_false fun hm => hk ?_
      have := List.length_pos_iff.2 hm
      simp; omega)
  unfold v_place
  show ((slices_BinarySearchFunc_string_string_string_n_Cmp (ks (L ++ m ++ H)) (ti i) ()).bind _) = _
  rw [this, bind_some']
theorem ks_app (P Q : KV) : ks (P ++ Q) = ks P ++ ks Q := by simp [ks]
theorem vs_mid (L H : KV) (i w : Int) : (vs (L ++ [(i, w)] ++ H)).getD L.length [] = ti w := by
  rw [vs_get (by simp)]
  simp
theorem at_arr {N : Nat} (hN : N ≤ 100000) {d i : Int} {P : KV} (hP : Incr P) (hs : Sm N d P) (hi : (ti i).length ≤ N) : v_at (arrV d P) (ti i) = some ((ti (atP d P i), ()), ()) := by
  obtain ⟨m, e, hp⟩ := parts_of hP i
  have hpl : v_place (arrV d P) (ti i) = some ((((lo i P).length : Int), decide (m ≠ []), ()), ()) := by
    have := place_eq hN hp (e ▸ hs) hi
    rwa [← e] at this
  have ha : atP d P i = (m.head?.map (·.2)).getD d := by
    have := atP_parts (d := d) hp.lo hp.hi hp.mid
    rwa [← e] at this
  unfold v_at
  rw [hpl, bind_some', ha]
  rcases hp.mid with rfl | ⟨w, rfl⟩
  · rfl
  · have hlt : (lo i P).length < P.length := by
      have := congrArg List.length e
      simp at this; omega
    have hg : (vs P).getD (lo i P).length [] = ti w := (congrArg (fun Q => (vs Q).getD (lo i P).length []) e).trans (vs_mid ..)
    simp only
    rw [cond_dt (by simp), grd_and, grd_dec (by omega), grd_dec (by rw [vs_len]; exact_mod_cast hlt), Int.toNat_natCast, hg]
    rfl
end Go.AM.Num
end
section
namespace Go.AM.Num
theorem r_validV_eq {N : Nat} (hN : N ≤ 100000) {v : Val} (hv : Short N v) : r_ValidValue v = some ((validV v, ()), ()) := by
  have h1 : r_IsInt v.2.2.1 = some ((isI v.2.2.1, ()), ()) := r_isInt_eq (by have := hv.num; omega)
  have h2 : r_Valid v.2.2.1 = some (((rd v.2.2.1).isSome, ()), ()) := r_valid_eq (by have := hv.num; omega)
  unfold r_ValidValue validV simpleV
  rw [h1, h2]
  simp only [bind_some']
  by_cases e4 : v.1 = 4
  · rw [cond_nf e4, if_neg (by omega), if_neg (by omega), if_neg (by omega), if_pos e4, cond_nt (by omega)]
    cases hb : v.2.1 with
    | true => rfl
    | false =>
      simp only [cond_f, Bool.not_false, Bool.true_and]
      rw [cond_ef (by omega), cond_ef (by omega), cond_ef (by omega), cond_et e4]
      cases hi : isI v.2.2.1 with
      | false => rfl
      | true =>
        simp only [Bool.not_true, cond_f, Bool.true_and]
        by_cases hl : v.2.2.2.1.length = v.2.2.2.2.length
        · rw [cond_nf (by omega), decide_eq_true hl, Bool.true_and]
          rcases r_elements hN hv hl with ⟨a1, a2⟩ | ⟨a1, k, a2⟩
          · rw [a1, a2]; simp only [bind_some', same_ee, cond_t]
          · rw [a1, a2]; simp only [bind_some', same_re, same_rr, cond_t, cond_f]
        · rw [cond_nt (by omega), decide_eq_false hl, Bool.false_and]
  · rw [cond_nt e4]
    by_cases k1 : v.2.2.2.1.length = 0
    · rw [cond_df (by omega), decide_eq_true k1, Bool.true_and]
      by_cases k2 : v.2.2.2.2.length = 0
      · rw [cond_df (by omega), decide_eq_true k2]
        simp only [Bool.and_true]
        by_cases e1 : v.1 = 1
        · rw [cond_nf e1, if_pos e1, cond_et e1]
        · rw [cond_nt e1, if_neg e1]
          by_cases e2 : v.1 = 2
          · rw [if_pos e2, cond_ef e1, cond_et e2]; cases v.2.1 <;> rfl
          · rw [if_neg e2]
            by_cases e3 : v.1 = 3
            · rw [if_pos e3, cond_ef e1, cond_ef e2, cond_et e3]; cases v.2.1 <;> rfl
            · rw [if_neg e3, if_neg e4, cond_ef e1, cond_ef e2, cond_ef e3, cond_ef e4]; cases v.2.1 <;> rfl
      · rw [cond_dt (by omega), decide_eq_false k2]
        simp only [Bool.and_false, if_neg e4, ite_self]
    · rw [cond_dt (by omega), decide_eq_false k1, Bool.false_and]
      simp only [Bool.and_false, if_neg e4, ite_self]
end Go.AM.Num
end
section
namespace Go.AM.Num
section
variable {d i n : Int} {P : KV} {t6 : Val}
theorem ks_snoc (Q : KV) (p : Int × Int) : ks Q ++ [ti p.1] = ks (Q ++ [p]) := by simp [ks]
theorem vs_snoc (Q : KV) (p : Int × Int) : vs Q ++ [ti p.2] = vs (Q ++ [p]) := by simp [vs]

theorem rs_keep {Q : KV} {k : Nat} (hf : P.length ≤ 1000000000) (hQ : Q.length ≤ 2000000000) (hk : k < P.length) (hne : P[k].1 ≠ i) :
    r_Store_s6 (ti i, ti n, arrV d P, t6, arrV d Q, true, (k : Int), ()) = some (.normal, (ti i, ti n, arrV d P, t6, arrV d (Q ++ [P[k]]), true, ((k + 1 : Nat) : Int), ())) := by
  have a1 := ks_len P; have a2 := vs_len P; have a3 := ks_len Q; have a4 := vs_len Q
  unfold r_Store_s6
  simp only
  rw [cond_dt (by omega)]
  simp only [Bool.not_true, cond_f]
  rw [cond_dt (by omega), grd_and, grd_dec (by omega), grd_dec (by omega), Int.toNat_natCast, ks_get hk, vs_get hk, ti_beq, decide_eq_false hne]
  simp only [Bool.not_false, cond_t]
  rw [grd_and, grd_dec (by omega), grd_dec (by omega), grd_dec (by rw [maxN_eq]; simp only [List.length_cons, List.length_nil]; omega), grd_and, grd_dec (by omega), grd_dec (by omega), grd_dec (by rw [maxN_eq]; simp only [List.length_cons, List.length_nil]; omega), w64 (by omega), ks_snoc, vs_snoc]
  rfl
theorem rs_end {Q : KV} {b : Bool} : r_Store_s6 (ti i, ti n, arrV d P, t6, arrV d Q, b, ((P.length + 1 : Nat) : Int), ()) = some (.exit 0, (ti i, ti n, arrV d P, t6, arrV d Q, b, ((P.length + 1 : Nat) : Int), ())) := by
  have a1 := ks_len P
  unfold r_Store_s6
  simp only
  rw [cond_df (by omega)]
theorem rs_last {Q : KV} (hf : P.length ≤ 1000000000) :
    r_Store_s6 (ti i, ti n, arrV d P, t6, arrV d Q, true, (P.length : Int), ()) = some (.normal, (ti i, ti n, arrV d P, t6, arrV d Q, true, ((P.length + 1 : Nat) : Int), ())) := by
  have a1 := ks_len P
  unfold r_Store_s6
  simp only
  rw [cond_dt (by omega)]
  simp only [Bool.not_true, cond_f]
  rw [cond_df (by omega), w64 (by omega)]
  rfl
theorem rs_tail (hf : P.length ≤ 1000000000) : ∀ (R pre Q : KV), P = pre ++ R → (∀ p ∈ R, p.1 ≠ i) → Q.length + R.length ≤ 2000000000 →
    loopO r_Store_s6 (ti i, ti n, arrV d P, t6, arrV d Q, true, (pre.length : Int), ()) = some (.exit 0, (ti i, ti n, arrV d P, t6, arrV d (Q ++ R), true, ((P.length + 1 : Nat) : Int), ())) := by
  intro R
  induction R with
  | nil =>
    intro pre Q e _ _
    have : pre.length = P.length := by rw [e]; simp
    rw [this, loopO_go (rs_last hf), loopO_end rs_end (by simp), List.append_nil]
  | cons p R ih =>
    intro pre Q e hne hQ
    have hk : pre.length < P.length := by rw [e]; simp
    have hp : P[pre.length] = p := by simp [e]
    simp only [List.length_cons] at hQ
    rw [loopO_go (rs_keep hf (by omega) hk (by rw [hp]; exact hne p (by simp))), hp]
    have := ih (pre ++ [p]) (Q ++ [p]) (by rw [e]; simp) (fun q hq => hne q (List.mem_cons_of_mem _ hq)) (by simp; omega)
    rw [List.append_assoc] at this
    simp only [List.length_append, List.length_cons, List.length_nil, List.cons_append, List.nil_append] at this
    exact this

theorem rs_low {N : Nat} (hN : N ≤ 100000) {Q : KV} {k : Nat} (hs : Sm N d P) (hi : (ti i).length ≤ N) (hQ : Q.length ≤ 2000000000) (hk : k < P.length) (hlt : P[k].1 < i) :
    r_Store_s6 (ti i, ti n, arrV d P, t6, arrV d Q, false, (k : Int), ()) = some (.normal, (ti i, ti n, arrV d P, t6, arrV d (Q ++ [P[k]]), false, ((k + 1 : Nat) : Int), ())) := by
  have a1 := ks_len P; have a2 := vs_len P; have a3 := ks_len Q; have a4 := vs_len Q; have hf := hs.few
  have hc : r_Cmp (ti P[k].1) (ti i) = some (((P[k].1 - i).sign, ()), ()) := rcmp_ti (by have := (hs.els _ (List.getElem_mem hk)).1; omega) (by omega)
  have hsg : (P[k].1 - i).sign = -1 := Int.sign_eq_neg_one_of_neg (by omega)
  unfold r_Store_s6
  simp only
  rw [cond_dt (by omega)]
  simp only [Bool.not_false, cond_t]
  rw [cond_ef (by omega), grd_and, grd_dec (by omega), grd_dec (by omega), Int.toNat_natCast, ks_get hk, vs_get hk, hc, bind_some', hsg]
  rw [cond_df (by simp only; omega), cond_dt (by omega), grd_and, grd_dec (by omega), grd_dec (by omega), ti_beq, decide_eq_false (by omega)]
  simp only [Bool.not_false, cond_t]
  rw [grd_and, grd_dec (by omega), grd_dec (by omega), grd_dec (by rw [maxN_eq]; simp only [List.length_cons, List.length_nil]; omega), grd_and, grd_dec (by omega), grd_dec (by omega), grd_dec (by rw [maxN_eq]; simp only [List.length_cons, List.length_nil]; omega), w64 (by omega), ks_snoc, vs_snoc]
  rfl
theorem rs_head {N : Nat} (hN : N ≤ 100000) (hs : Sm N d P) (hi : (ti i).length ≤ N) : ∀ (R pre Z : KV), P = pre ++ R ++ Z → (∀ p ∈ R, p.1 < i) →
    loopO r_Store_s6 (ti i, ti n, arrV d P, t6, arrV d pre, false, (pre.length : Int), ()) = loopO r_Store_s6 (ti i, ti n, arrV d P, t6, arrV d (pre ++ R), false, ((pre ++ R).length : Int), ()) := by
  intro R
  induction R with
  | nil => intro pre Z _ _; rw [List.append_nil]
  | cons p R ih =>
    intro pre Z e hlt
    have hk : pre.length < P.length := by rw [e]; simp
    have hp : P[pre.length] = p := by simp [e]
    have hf := hs.few
    rw [loopO_go (rs_low hN hs hi (by omega) hk (by rw [hp]; exact hlt p (by simp))), hp]
    have := ih (pre ++ [p]) Z (by rw [e]; simp) (fun q hq => hlt q (List.mem_cons_of_mem _ hq))
    rw [List.append_assoc] at this
    simp only [List.length_append, List.length_cons, List.length_nil, List.cons_append, List.nil_append] at this ⊢
    exact this
end
end Go.AM.Num
end
section
namespace Go.AM.Num
def ins (d i n : Int) : KV := if n = d then [] else [(i, n)]
section
variable {d i n : Int} {P : KV} {t6 : Val}
theorem rs_mid_end {L : KV} (hf : P.length ≤ 1000000000) (hL : L.length = P.length) :
    r_Store_s6 (ti i, ti n, arrV d P, t6, arrV d L, false, (P.length : Int), ()) = some (.normal, (ti i, ti n, arrV d P, t6, arrV d (L ++ ins d i n), true, ((P.length + 1 : Nat) : Int), ())) := by
  have a1 := ks_len P; have a3 := ks_len L; have a4 := vs_len L
  unfold r_Store_s6
  simp only
  rw [cond_dt (by omega)]
  simp only [Bool.not_false, cond_t]
  rw [cond_et (by omega), ti_beq]
  unfold ins
  by_cases hn : n = d
  · rw [decide_eq_true hn, if_pos hn]
    simp only [Bool.not_true, cond_f]
    rw [cond_df (by omega), w64 (by omega), List.append_nil]
    rfl
  · rw [decide_eq_false hn, if_neg hn]
    simp only [Bool.not_false, cond_t]
    rw [grd_dec (by rw [maxN_eq]; simp only [List.length_cons, List.length_nil]; omega), grd_dec (by rw [maxN_eq]; simp only [List.length_cons, List.length_nil]; omega), cond_df (by omega), w64 (by omega), ks_snoc L (i, n), vs_snoc L (i, n)]
    rfl
theorem rs_mid_new {N : Nat} (hN : N ≤ 100000) (hs : Sm N d P) (hi : (ti i).length ≤ N) {L : KV} (hk : L.length < P.length) (hgt : i < P[L.length].1) :
    r_Store_s6 (ti i, ti n, arrV d P, t6, arrV d L, false, (L.length : Int), ()) = some (.normal, (ti i, ti n, arrV d P, t6, arrV d (L ++ ins d i n ++ [P[L.length]]), true, ((L.length + 1 : Nat) : Int), ())) := by
  have a1 := ks_len P; have a2 := vs_len P; have a3 := ks_len L; have a4 := vs_len L; have hf := hs.few
  have hc : r_Cmp (ti P[L.length].1) (ti i) = some (((P[L.length].1 - i).sign, ()), ()) := rcmp_ti (by have := (hs.els _ (List.getElem_mem hk)).1; omega) (by omega)
  have hsg : (P[L.length].1 - i).sign = 1 := Int.sign_eq_one_of_pos (by omega)
  unfold r_Store_s6
  simp only
  rw [cond_dt (by omega)]
  simp only [Bool.not_false, cond_t]
  rw [cond_ef (by omega), grd_and, grd_dec (by omega), grd_dec (by omega), Int.toNat_natCast, ks_get hk, vs_get hk, hc, bind_some', hsg]
  rw [cond_dt (by simp only; omega), ti_beq, ti_beq]
  unfold ins
  by_cases hn : n = d
  · rw [decide_eq_true hn, if_pos hn, List.append_nil]
    simp only [Bool.not_true, cond_f]
    rw [cond_dt (by omega), grd_and, grd_dec (by omega), grd_dec (by omega), decide_eq_false (by omega)]
    simp only [Bool.not_false, cond_t]
    rw [grd_and, grd_dec (by omega), grd_dec (by omega), grd_dec (by rw [maxN_eq]; simp only [List.length_cons, List.length_nil]; omega), grd_and, grd_dec (by omega), grd_dec (by omega), grd_dec (by rw [maxN_eq]; simp only [List.length_cons, List.length_nil]; omega), w64 (by omega), ks_snoc, vs_snoc]
    rfl
  · rw [decide_eq_false hn, if_neg hn]
    simp only [Bool.not_false, cond_t]
    rw [grd_dec (by rw [maxN_eq]; simp only [List.length_cons, List.length_nil]; omega), grd_dec (by rw [maxN_eq]; simp only [List.length_cons, List.length_nil]; omega), cond_dt (by omega), grd_and, grd_dec (by omega), grd_dec (by omega), decide_eq_false (by omega)]
    simp only [Bool.not_false, cond_t]
    rw [grd_and, grd_dec (by omega), grd_dec (by omega), grd_dec (by rw [maxN_eq]; simp only [List.length_append, List.length_cons, List.length_nil]; omega), grd_and, grd_dec (by omega), grd_dec (by omega), grd_dec (by rw [maxN_eq]; simp only [List.length_append, List.length_cons, List.length_nil]; omega), w64 (by omega), ks_snoc L (i, n), vs_snoc L (i, n), ks_snoc, vs_snoc]
    rfl
theorem rs_mid_old {N : Nat} (hN : N ≤ 100000) (hs : Sm N d P) (hi : (ti i).length ≤ N) {L : KV} (hk : L.length < P.length) (heq : P[L.length].1 = i) :
    r_Store_s6 (ti i, ti n, arrV d P, t6, arrV d L, false, (L.length : Int), ()) = some (.normal, (ti i, ti n, arrV d P, t6, arrV d (L ++ ins d i n), true, ((L.length + 1 : Nat) : Int), ())) := by
  have a1 := ks_len P; have a2 := vs_len P; have a3 := ks_len L; have a4 := vs_len L; have hf := hs.few
  have hc : r_Cmp (ti P[L.length].1) (ti i) = some (((P[L.length].1 - i).sign, ()), ()) := rcmp_ti (by have := (hs.els _ (List.getElem_mem hk)).1; omega) (by omega)
  have hsg : (P[L.length].1 - i).sign = 0 := by rw [show P[L.length].1 - i = 0 by omega]; rfl
  unfold r_Store_s6
  simp only
  rw [cond_dt (by omega)]
  simp only [Bool.not_false, cond_t]
  rw [cond_ef (by omega), grd_and, grd_dec (by omega), grd_dec (by omega), Int.toNat_natCast, ks_get hk, vs_get hk, hc, bind_some', hsg]
  rw [cond_dt (by simp only; omega), ti_beq, ti_beq]
  unfold ins
  by_cases hn : n = d
  · rw [decide_eq_true hn, if_pos hn, List.append_nil]
    simp only [Bool.not_true, cond_f]
    rw [cond_dt (by omega), grd_and, grd_dec (by omega), grd_dec (by omega), decide_eq_true heq]
    simp only [Bool.not_true, cond_f]
    rw [w64 (by omega)]
    rfl
  · rw [decide_eq_false hn, if_neg hn]
    simp only [Bool.not_false, cond_t]
    rw [grd_dec (by rw [maxN_eq]; simp only [List.length_cons, List.length_nil]; omega), grd_dec (by rw [maxN_eq]; simp only [List.length_cons, List.length_nil]; omega), cond_dt (by omega), grd_and, grd_dec (by omega), grd_dec (by omega), decide_eq_true heq]
    simp only [Bool.not_true, cond_f]
    rw [w64 (by omega), ks_snoc L (i, n), vs_snoc L (i, n)]
    rfl
theorem rs_loop {N : Nat} (hN : N ≤ 100000) (hP : Incr P) (hs : Sm N d P) (hi : (ti i).length ≤ N) :
    loopO r_Store_s6 (ti i, ti n, arrV d P, t6, arrV d [], false, 0, ()) = some (.exit 0, (ti i, ti n, arrV d P, t6, arrV d (stP d P i n), true, ((P.length + 1 : Nat) : Int), ())) := by
  obtain ⟨m, e, hp⟩ := parts_of hP i
  have hf := hs.few
  have hd := rs_head (n := n) (t6 := t6) hN hs hi (lo i P) [] (m ++ Num.hi i P) (by rw [List.nil_append, ← List.append_assoc]; exact e) hp.lo
  simp only [List.nil_append, List.length_nil] at hd
  rw [show ((0 : Nat) : Int) = 0 from rfl] at hd
  rw [hd]
  have hst : stP d P i n = lo i P ++ ins d i n ++ Num.hi i P := rfl
  have hil : (ins d i n).length ≤ 1 := by unfold ins; split <;> simp
  have hlen := congrArg List.length e
  simp only [List.length_append] at hlen
  rcases hp.mid with rfl | ⟨w, rfl⟩
  · cases hH : Num.hi i P with
    | nil =>
      have hL : (lo i P).length = P.length := by rw [hH] at hlen; simp at hlen; omega
      rw [hL, loopO_go (rs_mid_end hf hL), loopO_end rs_end (by simp), hst, hH, List.append_nil]
    | cons p H' =>
      have hk : (lo i P).length < P.length := by rw [hH] at hlen; simp at hlen; omega
      have hp0 : P[(lo i P).length] = p := by
        have : P = lo i P ++ p :: H' := by rw [hH, List.append_nil] at e; exact e
        have h2 : P[(lo i P).length]? = some p := (congrArg (fun Q : KV => Q[(lo i P).length]?) this).trans (by simp)
        rw [List.getElem?_eq_getElem hk] at h2
        exact Option.some.inj h2
      have hmem : ∀ q ∈ p :: H', i < q.1 := fun q hq => hp.hi q (by show q ∈ Num.hi i P; rw [hH]; exact hq)
      have h1 := rs_mid_new (n := n) (t6 := t6) hN hs hi hk (by rw [hp0]; exact hmem p (by simp))
      rw [hp0] at h1
      have h2 := rs_tail (i := i) (n := n) (d := d) (t6 := t6) hf H' (lo i P ++ [p]) (lo i P ++ ins d i n ++ [p]) (by rw [hH] at e; simpa using e) (fun q hq => by have := hmem q (List.mem_cons_of_mem _ hq); omega)
        (by rw [hH] at hlen; simp at hlen ⊢; omega)
      rw [loopO_go h1, hst, hH]
      simp only [List.length_append, List.length_cons, List.length_nil, List.append_assoc, List.cons_append, List.nil_append] at h2 ⊢
      exact h2
  · have hk : (lo i P).length < P.length := by simp at hlen; omega
    have hp0 : P[(lo i P).length].1 = i := by
      have h2 : P[(lo i P).length]? = some (i, w) := (congrArg (fun Q : KV => Q[(lo i P).length]?) e).trans (by simp)
      rw [List.getElem?_eq_getElem hk] at h2
      rw [Option.some.inj h2]
    have h1 := rs_mid_old (n := n) (t6 := t6) hN hs hi hk hp0
    have h2 := rs_tail (i := i) (n := n) (d := d) (t6 := t6) hf (Num.hi i P) (lo i P ++ [(i, w)]) (lo i P ++ ins d i n) e (fun q hq => by have := hp.hi q hq; omega)
      (by simp at hlen ⊢; omega)
    rw [loopO_go h1, hst]
    simp only [List.length_append, List.length_cons, List.length_nil] at h2 ⊢
    exact h2
end
end Go.AM.Num
end
section
namespace Go.AM.Num
theorem v_array_eq {N : Nat} (hN : N ≤ 100000) {v : Val} (hv : Short N v) : v_array v = some ((decide (v.1 = 4) && validV v, ()), ()) := by
  unfold v_array
  by_cases h : v.1 = 4
  · rw [cond_et h, v_valid_eq hN hv, bind_some', decide_eq_true h, Bool.true_and]
  · rw [cond_ef h, decide_eq_false h, Bool.false_and]
theorem rstore_ok {N : Nat} (hN : N ≤ 100000) {d i n : Int} {P : KV} (hP : Canon d P) (hs : Sm N d P) (hi : (ti i).length ≤ N) (hn : (ti n).length ≤ N) :
    r_Store (arrV d P) (ti i) (ti n) = some ((arrV d (stP d P i n), 0, ()), ()) := by
  unfold r_Store
  simp only
  rw [cond_nf (by omega), r_validV_eq hN hs.short, bind_some', arr_valid hP, r_isInt_eq (by omega), r_isInt_eq (by omega), isI_ti, isI_ti]
  simp only [Bool.not_true, cond_f, bind_some']
  have := rs_loop (n := n) (t6 := ((0 : Int), false, ([] : List UInt8), ([] : List (List UInt8)), ([] : List (List UInt8)))) hN hP.incr hs hi
  have e : (arrV d [] : Val) = (4, false, ti d, ([] : List (List UInt8)), ([] : List (List UInt8))) := rfl
  rw [e] at this
  rw [this, bind_some']
  simp only [same_ee, cond_t]
theorem at_ok {N : Nat} (hN : N ≤ 100000) {d i : Int} {P : KV} (hP : Canon d P) (hs : Sm N d P) (hi : (ti i).length ≤ N) :
    v_At (arrV d P) (ti i) = some ((ti (atP d P i), ()), ()) := by
  unfold v_At
  rw [v_array_eq hN hs.short, bind_some', arr_valid hP, isInt_eq (by omega), isI_ti, at_arr hN hP.incr hs hi]
  rfl
end Go.AM.Num
end
section
namespace Go.AM.Num
theorem stP_len {d i n : Int} {P : KV} (h : Incr P) : (stP d P i n).length ≤ P.length + 1 := by
  obtain ⟨m, e, _⟩ := split3 i h
  have := congrArg List.length e
  unfold stP
  simp only [List.length_append] at this ⊢
  split <;> simp <;> omega
theorem stP_sm {N : Nat} {d i n : Int} {P : KV} (hP : Incr P) (h : Sm N d P) (hi : (ti i).length ≤ N) (hn : (ti n).length ≤ N) (hl : P.length < 1000000000) : Sm N d (stP d P i n) := by
  refine ⟨h.num, fun p hp => ?_, by have := stP_len (d := d) (i := i) (n := n) hP; omega⟩
  unfold stP at hp
  rcases List.mem_append.1 hp with hp | hp
  · rcases List.mem_append.1 hp with hp | hp
    · exact h.els p (lo_mem.1 hp).1
    · split at hp
      · cases hp
      · rw [List.mem_singleton.1 hp]; exact ⟨hi, hn⟩
  · exact h.els p (hi_mem.1 hp).1
theorem g_int_eq {c : List Int × Int} (hc : CI c) : ∃ (z : Int) (c' : List Int × Int), g_Choices_Integer c = some ((ti z, ()), (c', ())) ∧ CI c' ∧ (ti z).length ≤ 52 := by
  obtain ⟨z, c', h1, h2, h3⟩ := g_integer_eq hc
  exact ⟨z, c', h1, h2, by have := txt_len (z : Rat); unfold ti; omega⟩
theorem gv_loop {t4 : Val} : ∀ (n : Nat) {c : List Int × Int} {d : Int} {P : KV}, CI c → Canon d P → Sm 52 d P → P.length + n ≤ 100 →
    ∃ c' P', loopO g_Choices_Value_s7 (c, t4, arrV d P, (n : Int), ()) = some (.exit 1, (c', t4, arrV d P', 0, ())) ∧ CI c' ∧ Canon d P' ∧ Sm 52 d P' ∧ P'.length ≤ 100 := by
  intro n
  induction n with
  | zero =>
    intro c d P hc hP hs hl
    exact ⟨c, P, loopO_end (by unfold g_Choices_Value_s7; simp only; rw [cond_df (by omega)]; rfl) (by simp), hc, hP, hs, by omega⟩
  | succ n ih =>
    intro c d P hc hP hs hl
    obtain ⟨i, c1, h1, hc1, hi⟩ := g_int_eq hc
    obtain ⟨m, c2, h2, hc2, hm⟩ := g_int_eq hc1
    have h3 := rstore_ok (N := 52) (by omega) hP hs hi hm
    have hlen := stP_len (d := d) (i := i) (n := m) hP.incr
    obtain ⟨c', P', g1, g2, g3, g4, g5⟩ := ih hc2 (stP_canon hP i m) (stP_sm hP.incr hs hi hm (by omega)) (by omega)
    refine ⟨c', P', ?_, g2, g3, g4, g5⟩
    rw [loopO_go (y := (c2, t4, arrV d (stP d P i m), (n : Int), ())) (by
      unfold g_Choices_Value_s7
      simp only
      rw [cond_dt (by omega), h1, bind_some', h2, bind_some', h3, bind_some', w64 (by omega)]
      have e : ((n + 1 : Nat) : Int) - 1 = (n : Int) := by omega
      rw [e])]
    exact g1
theorem canon_nil (d : Int) : Canon d [] := ⟨List.Pairwise.nil, fun _ hp => absurd hp List.not_mem_nil⟩
theorem sm_nil {N : Nat} {d : Int} (h : (ti d).length ≤ N) : Sm N d [] := ⟨h, fun _ hp => absurd hp List.not_mem_nil, Nat.zero_le _⟩
theorem g_array_eq {c : List Int × Int} (hc : CI c) : ∃ d P c', g_Choices_Value c 4 = some ((arrV d P, ()), (c', ())) ∧ CI c' ∧ Canon d P ∧ Sm 52 d P ∧ P.length ≤ 100 := by
  obtain ⟨d, c1, h1, hc1, hd⟩ := g_int_eq hc
  obtain ⟨r, c2, h2, hc2, r0, r4⟩ := g_next_eq hc1 (n := 4) (by omega)
  obtain ⟨k, rfl⟩ : ∃ k : Nat, r = k := ⟨r.toNat, by omega⟩
  obtain ⟨c3, P, h3, hc3, hP, hs, hl⟩ := gv_loop (t4 := ((0 : Int), false, ([] : List UInt8), ([] : List (List UInt8)), ([] : List (List UInt8)))) k hc2 (canon_nil d) (sm_nil hd) (by simp; omega)
  refine ⟨d, P, c3, ?_, hc3, hP, hs, hl⟩
  have e : (arrV d [] : Val) = (4, false, ti d, ([] : List (List UInt8)), ([] : List (List UInt8))) := rfl
  rw [e] at h3
  unfold g_Choices_Value
  rw [cond_ef (by omega), cond_et rfl, h1, bind_some', h2, bind_some', h3, bind_some']
  simp only [same_ee, cond_t]

end Go.AM.Num
end
section
namespace Go.AM.Num
theorem s_texts_eq {a b : List (List UInt8)} (ha : a.length ≤ 2000000000) : slices_Equal_string_string a b = some ((decide (a = b), ()), ()) := by
  unfold slices_Equal_string_string
  by_cases hl : a.length = b.length
  · rw [cond_nf (by omega)]
    have := loop_all (step := slices_Equal_string_string_s4) (fun k => (a, b, false, (a.length : Int), (k : Int), ())) (fun k => (a, b, false, (a.length : Int), (k : Int), ())) a.length (E := .exit 0) (B := .ret) (by simp) (by simp) (fun k => a.getD k [] == b.getD k []) (fun k hk => by
      unfold slices_Equal_string_string_s4
      simp only
      rw [cond_dt (by omega), grd_and, grd_dec (by omega), grd_dec (by omega), grd_and, grd_dec (by omega), grd_dec (by omega), Int.toNat_natCast, w64 (by omega)]
      cases (a.getD k [] == b.getD k []) <;> rfl) (by
      unfold slices_Equal_string_string_s4
      simp only
      rw [cond_df (by omega)])
    rw [show ((0 : Nat) : Int) = 0 from rfl] at this
    have heq : (List.range a.length).all (fun k => a.getD k [] == b.getD k []) = decide (a = b) := by
      rw [Bool.eq_iff_iff, List.all_eq_true, decide_eq_true_eq]
      constructor
      · intro h
        refine List.ext_getElem hl fun k h1 h2 => ?_
        have := h k (List.mem_range.2 h1)
        simpa [List.getD_eq_getElem?_getD, h1, h2] using this
      · rintro rfl k _; simp
    rcases this with ⟨h1, h2⟩ | ⟨h1, k, h2⟩
    · rw [h2, ← heq, h1]; simp only [bind_some', same_ee, cond_t]
    · rw [h2, ← heq, h1]; simp only [bind_some', same_re, same_rr, cond_t, cond_f]
  · rw [cond_nt (by omega), decide_eq_false (fun e => hl (by rw [e]))]
theorem v_equal_eq {a b : Val} (ha : a.2.2.2.1.length ≤ 2000000000) (hb : a.2.2.2.2.length ≤ 2000000000) : v_Equal a b = some ((decide (a = b), ()), ()) := by
  obtain ⟨s, t, u, k, w⟩ := a
  obtain ⟨s', t', u', k', w'⟩ := b
  unfold v_Equal
  simp only at ha hb ⊢
  rw [s_texts_eq ha, s_texts_eq hb]
  simp only [bind_some', Prod.mk.injEq]
  by_cases h1 : s = s'
  · rw [cond_et h1]
    by_cases h2 : t = t'
    · rw [h2]; simp only [beq_self_eq_true, cond_t]
      by_cases h3 : u = u'
      · rw [h3]; simp only [beq_self_eq_true, cond_t]
        by_cases h4 : k = k'
        · rw [decide_eq_true h4]; simp only [cond_t]; simp [h1, h4]
        · rw [decide_eq_false h4]; simp only [cond_f]; simp [h4]
      · rw [show (u == u') = false from beq_eq_false_iff_ne.2 h3]; simp [h3]
    · rw [show (t == t') = false from beq_eq_false_iff_ne.2 h2]; simp [h2]
  · rw [cond_ef h1]; simp [h1]
theorem v_equal_arr {N : Nat} {d : Int} {P : KV} (hs : Sm N d P) {b : Val} : v_Equal (arrV d P) b = some ((decide (arrV d P = b), ()), ()) := by
  have := hs.few
  exact v_equal_eq (by simp only; rw [ks_len]; omega) (by simp only; rw [vs_len]; omega)
end Go.AM.Num
end
section
namespace Go.AM.Num
open Go.Proofs Go.Proofs.YtmckcoeongfmhaaGreatDoor
theorem gPow : Tryz.prog.globalNamed "internal/strconv.uint64pow10" = some 0 := by kernel_rfl
theorem tPow : (Tryz.prog.globals[0]?).map (·.type) = some 313 := by kernel_rfl
theorem max_of {W : World} (h : W.ShapedOpen Tryz.prog) : ∃ m, W.cell? ⟨1, 0, none⟩ = some (.int .i64 m) :=
  cell_of_shapedOpen_int (t := 3) (zero := #[.int .i64 0]) h (of_decide_eq_true (by kernel_rfl)) (by kernel_rfl) rfl (by kernel_rfl) (by kernel_rfl) Tryz.underlying3
theorem gn_of {W : World} (hL : laidMetH Tryz.prog Rows.valueZeroRow.laid W) (hsh : W.ShapedOpen Tryz.prog) : GN W := by
  rw [MakeChecks.laidMetH_plain _ _ _ (by kernel_rfl)] at hL
  obtain ⟨ps, ⟨g0, t0, cs0, f0, p0, q0, hg0, ht0, hv0, hd0, ⟨g1, t1, cs1, f1, p1, q1, hg1, ht1, hv1, hd1, ⟨g2, t2, cs2, f2, p2, q2, hg2, ht2, hv2, hd2, _⟩, _⟩, _⟩, _⟩ := hL
  obtain rfl := Option.some.inj (gPow.symm.trans hg2)
  obtain rfl := Option.some.inj (tPow.symm.trans ht2)
  refine ⟨max_of hsh, ?_⟩
  have e : (Rows.laid_internal_strconv_uint64pow10 : DataW Unit) = Lib.tabData .u64 Lib.pow10Tab := by kernel_rfl
  rw [e] at hd2
  unfold Lib.TabIs
  rw [hv2, ← Lib.cells_of_tab Tryz.underlying313 Tryz.underlying231 (by kernel_rfl) (by kernel_rfl) hd2]
theorem gn_keep {w w' : World} (h : GN w) (hb : ∀ B, B < 2 → w'.heap[B]? = w.heap[B]?) : GN w' := by
  have hc : ∀ B o, B < 2 → w'.cell? ⟨B, o, none⟩ = w.cell? ⟨B, o, none⟩ := fun B o hB => by simp [World.cell?, hb B hB]
  refine ⟨?_, ?_⟩
  · rw [hc _ 0 (by decide)]; exact h.maxLen
  · have := h.pow10
    unfold Lib.TabIs World.var? at this ⊢
    rw [gPow] at this ⊢
    simp only [Option.bind_some] at this ⊢
    rw [hb _ (by decide)]
    exact this
theorem gn_size {w : World} (h : GN w) : 2 ≤ w.heap.size := by
  obtain ⟨m, hm⟩ := h.maxLen
  exact World.block_lt_of_cell? w ⟨1, 0, none⟩ hm
end Go.AM.Num
end
section
namespace Go.AM.Num
open Go.Proofs

noncomputable def VN : Env where
  P := Tryz.prog
  gb := 2
  G := GN
  keep := fun w w' h _ hb => gn_keep h hb
  mixed := by kernel_rfl
theorem f0 : Fs Tryz.prog VN l0 :=
  (((((((((((⟨rfl, fnNil⟩ : Fs Tryz.prog VN []).cons (Builder_copyCheck_good rfl)).cons (strconv_FormatUint_good rfl (fun _ h => h))).cons (strconv_ParseInt_good rfl)).cons (strings_Cut_good rfl (fun _ h => h))).cons (strconv_FormatInt_good rfl (fun _ h => h))).cons (slices_Clone_good rfl)).cons (slices_Insert_good rfl)).cons (slices_Delete_good rfl)).cons (Builder_String_good rfl)).cons (strings_CutPrefix_good rfl))
end Go.AM.Num
end
section
namespace Go.AM.Num
open Go.Proofs Go.Proofs.YtmckcoeongfmhaaGreatDoor Go.RowKit Go.ChangeShapes Go.WideShapes Go.ChangeAt

theorem law_calls {k : FuncId} {ps : List PK} {g : tysP ps → Option (tysP [.val .bool] × tysO ps)} (hG : Good VN k ⟨ps, [.val .bool], g⟩) (x : tysP ps) (hin : rowsIn ps x = []) (hk : cntK ps = 0) (o : tysO ps) (hx : g x = some ((true, ()), o))
    (W : World) (hW : GN W) (vs : Array Value) (ha : RelL (rdW W) (fun B => B < W.heap.size) (fun _ => none) (encVals ps x 0 0) vs.toList) :
    Calls Tryz.prog k vs W fun e w' => e = .returned (.bool true) ∧ Below W.heap.size W w' := by
  refine Calls.mono (hG.spec x _ o hx W (fun B => B < W.heap.size) (fun _ => none) vs hW (gn_size hW) ?_ ?_) ?_
  · rw [hin]; exact ctx_nil fun _ h => h
  · rw [hk]; exact ha
  · rintro e w' ⟨us, I', β', rfl, hf, _, hr⟩
    obtain rfl : us = [.bool true] := by
      have : valsOut ps [.val .bool] (true, ()) = [.bool true] := rfl
      rw [this] at hr
      simp only [RelL, RelV] at hr
      obtain ⟨u, us', rfl, rfl, rfl⟩ := hr
      rfl
    refine ⟨rfl, hf.os, hf.tape, hf.output, hf.size, fun B hB => hf.block B hB ?_⟩
    rw [hin]
    exact live_nil B

def IL (l : List Int) : Prop := l.length ≤ 9223372036854775807 ∧ ∀ x ∈ l, in64 x
theorem in64_of {n : Int} (h : (Lit.int .i64 n).wf = true) : in64 n := by
  simp only [Lit.wf, Bool.and_eq_true, decide_eq_true_eq] at h
  exact h
theorem il_of {l : List Int} (h : l.length ≤ maxLen) (hw : ∀ x ∈ l, (Lit.int .i64 x).wf = true) : IL l := ⟨by unfold maxLen at h; omega, fun x hx => in64_of (hw x hx)⟩
section
variable {H : Type} {enc : TypeId × Value → H} {W : World} {I : Nat → Prop} {rd : Nat → Nat → Option Value} {β : Nat → Option Place}
theorem rl_nil : RelL rd I β (encVals [] () 0 0) [] := by simp only [encVals, RelL]
theorem rl_cons {t : GT} {ps : List PK} {x : t.ty} {y : tysP ps} {v : Value} {vs : List Value} (h : RelV rd I β (Go.AM.enc t x) v) (r : RelL rd I β (encVals ps y 0 0) vs) : RelL rd I β (encVals (.val t :: ps) (x, y) 0 0) (v :: vs) := by
  simp only [encVals, RelL]
  exact ⟨v, vs, rfl, h, r⟩
theorem add_off (a : Addr) (i : Nat) (h : a.spot = none) : a.add i = ⟨a.block, a.off + i, none⟩ := by
  obtain ⟨b, o, s⟩ := a
  simp only at h; subst h
  simp [Addr.add]

theorem ints_tv {t e : TypeId} {k : IntKind} {a : Option Addr} {len cap : Nat} {d : DataW H} {p : List MemPlace} (ht : Tryz.prog.underlying t = some (.slice e)) (he : Tryz.prog.underlying e = some (.int k)) (hc : Tryz.prog.cellsOf e = 1) (h : DataW.Trod enc Tryz.prog W 0 (fun _ => true) true t (.slice a len cap) d p) :
    ∃ l : List Int, l.length = len ∧ len ≤ maxLen ∧ (∀ x ∈ l, (Lit.int k x).wf = true) ∧ TV (rdW W) (fun B => B < W.heap.size) (.sl (.int k)) l (.slice a len cap) := by
  obtain ⟨fuel, hf⟩ := h
  rcases open_ints ht he hc hf with ⟨hcs, _⟩ | ⟨x, l, c, zs, hcs, _, hl, hm, hz, _, hcell, hwz⟩
  · simp [Value.cells] at hcs
    obtain ⟨rfl, rfl, rfl⟩ := hcs
    refine ⟨[], rfl, Nat.zero_le _, by simp, ?_⟩
    simp only [TV, GT.isAgg, RelC]
    exact ⟨none, 0, rfl, Nat.le_refl _, fun h => absurd rfl h⟩
  · simp [Value.cells] at hcs
    obtain ⟨rfl, rfl, rfl⟩ := hcs
    simp only [if_true] at hz
    have hzl : zs.length = cap := by simpa using hz
    refine ⟨zs.take len, by simp; omega, by omega, fun y hy => hwz y (List.mem_of_mem_take hy), ?_⟩
    have hg : ∀ i, i < zs.length → W.cell? (x.add i) = some (.int k (zs.getD i 0)) := hcell
    simp only [TV, GT.isAgg, RelC]
    refine ⟨some x, cap, by simp; omega, by simp; omega, fun hne => ?_⟩
    have hpos : 0 < zs.length := by
      have : zs.take len ≠ [] := hne
      rcases zs with _ | ⟨z, zs⟩
      · simp at this
      · simp
    have hspot : x.spot = none := by simpa [Addr.add] using World.cell?_spot (hg 0 hpos)
    have hat : ∀ i, i < zs.length → W.cell? ⟨x.block, x.off + i, none⟩ = some (.int k (zs.getD i 0)) := fun i hi => by
      rw [← add_off x i hspot]; exact hg i hi
    refine ⟨x.block, x.off, by obtain ⟨b, o, s⟩ := x; simp only at hspot; subst hspot; rfl, World.block_lt_of_cell? W ⟨x.block, x.off + 0, none⟩ (hat 0 hpos), fun i z hi => ?_⟩
    have hi1 : i < zs.length := by
      have := (List.getElem?_eq_some_iff.1 hi).1
      simp at this; omega
    have hzi : zs.getD i 0 = z := by
      rw [List.getElem?_take] at hi
      split at hi
      · rw [List.getD_eq_getElem?_getD, hi]; rfl
      · cases hi
    refine ⟨[.int k z], rfl, fun j hj => ?_, rfl⟩
    have : j = 0 := by simp [GT.cells] at hj; omega
    subst this
    have := hat i hi1
    rw [hzi] at this
    have h2 := rdW_of_cell this rfl
    simpa [GT.cells] using h2
end
end Go.AM.Num
end
section
namespace Go.AM.Num
open Go.Proofs Go.Proofs.YtmckcoeongfmhaaGreatDoor Go.RowKit Go.ChangeShapes Go.WideShapes Go.ChangeAt

noncomputable def laidWorld (os : Os) : World :=
  { World.doorLaid Tryz.prog 400 os with heap := (World.doorLaid Tryz.prog 400 os).heap.modify 6 fun
      | .cells _ t frozen => .cells (Go.Pinned.utf8FirstZ.map fun n => Value.int .u8 (n : Nat)).toArray t frozen
      | o => o }
set_option maxRecDepth 100000 in
theorem laid_met (os : Os) (args : Array Value) : laidMet Tryz.prog Rows.valueZeroRow.laid ((laidWorld os).forCall (fun _ _ => 0) ⟨#[], args, []⟩).memory :=
  laidMet_of_run' 8 (by kernel_rfl) (by kernel_rfl)
theorem laid_var (os : Os) (args : Array Value) : (((laidWorld os).forCall (fun _ _ => 0) ⟨#[], args, []⟩).variablesRefB Tryz.prog) = true := by kernel_rfl
theorem laid_drop (os : Os) (args : Array Value) : ((((laidWorld os).forCall (fun _ _ => 0) ⟨#[], args, []⟩).heap.toList.drop Tryz.prog.globals.size).take ((begin Tryz.prog (fun _ _ => 0) default).world.heap.size - Tryz.prog.globals.size) =
      (begin Tryz.prog (fun _ _ => 0) default).world.heap.toList.drop Tryz.prog.globals.size) := by kernel_rfl
theorem own : ownKnob Tryz.prog.godebug = none := by kernel_rfl
theorem laidOut : laidOutB Tryz.prog = true := by kernel_rfl
end Go.AM.Num
end
section
set_option linter.unusedVariables false
namespace Go.AM.Num
theorem arrV_inj {d d' : Int} {P Q : KV} (h : arrV d P = arrV d' Q) : d = d' ∧ P = Q := by
  simp only [Prod.mk.injEq, true_and] at h
  obtain ⟨h1, h2, h3⟩ := h
  have hl : P.length = Q.length := by rw [← ks_len P, h2, ks_len]
  refine ⟨ti_inj h1, List.ext_getElem hl fun k a b => ?_⟩
  have e1 : (ks P).getD k [] = (ks Q).getD k [] := by rw [h2]
  have e2 : (vs P).getD k [] = (vs Q).getD k [] := by rw [h3]
  rw [ks_get a, ks_get b] at e1
  rw [vs_get a, vs_get b] at e2
  exact Prod.ext (ti_inj e1) (ti_inj e2)
theorem ext_iff {d d' : Int} {P Q : KV} (hP : Canon d P) (hQ : Canon d' Q) : (d = d' ∧ ∀ p ∈ P ++ Q, atP d P p.1 = atP d' Q p.1) ↔ arrV d P = arrV d' Q := by
  constructor
  · rintro ⟨rfl, h⟩
    have : P = Q := canon_ext hP hQ fun i => by
      by_cases hi : ∃ p ∈ P ++ Q, p.1 = i
      · obtain ⟨p, hp, rfl⟩ := hi; exact h p hp
      · rw [atP_nil (P := P) fun p hp e => hi ⟨p, List.mem_append_left _ hp, e⟩, atP_nil (P := Q) fun p hp e => hi ⟨p, List.mem_append_right _ hp, e⟩]
    rw [this]
  · intro h
    obtain ⟨rfl, rfl⟩ := arrV_inj h
    exact ⟨rfl, fun _ _ => rfl⟩
theorem ext_loop {d d' : Int} {P Q R : KV} (hP : Canon d P) (hQ : Canon d' Q) (sP : Sm 52 d P) (sQ : Sm 52 d' Q) (hR : ∀ p ∈ R, (ti p.1).length ≤ 52) (hl : R.length ≤ 1000000000) :
    ∀ n k (s : Bool), k + n = R.length → loopO l_ValueExtensional_s7 (arrV d P, arrV d' Q, s, ks R, (k : Int), ()) = some (.exit 0, (arrV d P, arrV d' Q, s && (R.drop k).all (fun p => decide (atP d P p.1 = atP d' Q p.1)), ks R, (R.length : Int), ())) := by
  have a1 := ks_len R
  intro n
  induction n with
  | zero =>
    intro k s hk
    obtain rfl : k = R.length := by omega
    rw [List.drop_length, List.all_nil, Bool.and_true]
    exact loopO_end (by unfold l_ValueExtensional_s7; simp only; rw [cond_df (by omega)]) (by simp)
  | succ n ih =>
    intro k s hk
    have hkl : k < R.length := by omega
    have hkey := hR _ (List.getElem_mem hkl)
    have step : l_ValueExtensional_s7 (arrV d P, arrV d' Q, s, ks R, (k : Int), ()) = some (.normal, (arrV d P, arrV d' Q, s && decide (atP d P R[k].1 = atP d' Q R[k].1), ks R, ((k + 1 : Nat) : Int), ())) := by
      unfold l_ValueExtensional_s7
      simp only
      rw [cond_dt (by omega)]
      cases s with
      | false =>
        simp only [cond_f, Bool.false_and]
        rw [w64 (by omega)]
        rfl
      | true =>
        simp only [cond_t, Bool.true_and]
        rw [grd_and, grd_dec (by omega), grd_dec (by omega), Int.toNat_natCast, grd_dec (by omega), ks_get hkl, at_ok (N := 52) (by omega) hP sP hkey, bind_some', grd_and, grd_dec (by omega), grd_dec (by omega), grd_dec (by omega), at_ok (N := 52) (by omega) hQ sQ hkey, bind_some', w64 (by omega)]
        simp only [ti_beq]
        rfl
    rw [loopO_go step, ih (k + 1) _ (by omega), Bool.and_assoc]
    congr 5
    rw [List.drop_eq_getElem_cons hkl, List.all_cons]
theorem ext_core {d d' : Int} {P Q : KV} (hP : Canon d P) (hQ : Canon d' Q) (sP : Sm 52 d P) (sQ : Sm 52 d' Q) (lP : P.length ≤ 1000) (lQ : Q.length ≤ 1000) :
    ∃ s k, loopO l_ValueExtensional_s7 (arrV d P, arrV d' Q, ti d == ti d', ks P ++ ks Q, 0, ()) = some (.exit 0, (arrV d P, arrV d' Q, s, k)) ∧ v_Equal (arrV d P) (arrV d' Q) = some ((s, ()), ()) := by
  have h := ext_loop hP hQ sP sQ (R := P ++ Q) (fun p hp => by
    rcases List.mem_append.1 hp with hp | hp
    · exact (sP.els p hp).1
    · exact (sQ.els p hp).1) (by simp; omega) (P ++ Q).length 0 (ti d == ti d') (by omega)
  rw [show ((0 : Nat) : Int) = 0 from rfl, ks_app, List.drop_zero] at h
  refine ⟨_, _, h, ?_⟩
  rw [v_equal_arr sP]
  congr 3
  rw [Bool.eq_iff_iff, decide_eq_true_eq, ← ext_iff hP hQ, Bool.and_eq_true, ti_beq, decide_eq_true_eq, List.all_eq_true]
  simp only [decide_eq_true_eq]
theorem two : ([50] : List UInt8) = ti 2 := by
  have : ti 2 = txt ((2 : Int) : Rat) := rfl
  rw [this]
  decide +kernel
theorem P_ValueExtensional (l : List Int) (hl : IL l) (m : List Int) (hm : IL m) : l_ValueExtensional l m = some ((true, ()), ()) := by
  obtain ⟨c0, n0, hc0⟩ := g_new_eq l
  obtain ⟨d, P, c1, g1, hc1, hP, sP, lP⟩ := g_array_eq hc0
  obtain ⟨c2, n2, hc2⟩ := g_new_eq m
  obtain ⟨d', Q, c3, g3, hc3, hQ, sQ, lQ⟩ := g_array_eq hc2
  obtain ⟨z, c4, g4, hc4, hz⟩ := g_int_eq hc2
  have k1 := ks_len P; have k2 := ks_len Q
  obtain ⟨s, k, h1, h2⟩ := ext_core hP hQ sP sQ (by omega) (by omega)
  have two52 : (ti 2).length ≤ 52 := by rw [← two]; simp
  have hst := stP_len (d := d) (i := 2) (n := z) hP.incr
  have sS := stP_sm (n := z) hP.incr sP two52 hz (by omega)
  have k3 := ks_len (stP d P 2 z)
  obtain ⟨s', k', h3, h4⟩ := ext_core hP (stP_canon hP 2 z) sP sS (by omega) (by omega)
  have r1 := rstore_ok (N := 52) (by omega) hP sP two52 hz
  unfold l_ValueExtensional
  rw [n0, bind_some', g1, bind_some', n2, bind_some', g3, bind_some']
  simp only
  by_cases hp : m.length > 0
  · rw [cond_dt (by omega), grd_and, grd_dec (by omega), grd_dec (by omega)]
    obtain ⟨r, hr, r0, r3⟩ := g_mod_eq (m.getD (0 : Int).toNat (0 : Int)) (n := 3) (by omega)
    rw [hr, bind_some']
    by_cases h0 : r = 0
    · rw [cond_et h0]
      simp only [bind_some']
      rw [g4, bind_some']
      simp only
      rw [two, r1, bind_some']
      simp only
      rw [grd_dec (by rw [maxN_eq]; omega), grd_dec (by rw [maxN_eq]; omega), h3, bind_some']
      simp only [same_ee, cond_t, h4, bind_some', beq_self_eq_true, v_awake_eq]
    · rw [cond_ef h0, grd_dec (by rw [maxN_eq]; omega), grd_dec (by rw [maxN_eq]; omega), h1, bind_some']
      simp only [same_ee, cond_t, h2, bind_some', beq_self_eq_true, v_awake_eq]
  · rw [cond_df (by omega), grd_dec (by rw [maxN_eq]; omega), grd_dec (by rw [maxN_eq]; omega), h1, bind_some']
    simp only [same_ee, cond_t, h2, bind_some', beq_self_eq_true, v_awake_eq]
end Go.AM.Num
end
