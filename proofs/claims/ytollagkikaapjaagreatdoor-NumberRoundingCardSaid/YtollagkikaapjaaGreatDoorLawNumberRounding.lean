/- The law holds for every input: its pure part, its row and its card. No condition beyond what each statement says. -/
import Derived.Test.YtollagkikaapjaaGreatDoorR1
import Derived.Test.YtollagkikaapjaaGreatDoorM3
set_option linter.unusedSimpArgs false
set_option linter.unusedVariables false
section
set_option linter.unusedSimpArgs false
set_option linter.unusedVariables false
namespace Go.AM.Num
theorem sign_ediv {x : Int} {g : Nat} (hg : 0 < g) (h : (g : Int) ∣ x) : (x / (g : Int)).sign = x.sign := by
  obtain ⟨c, rfl⟩ := h
  rw [Int.mul_ediv_cancel_left _ (by omega), Int.sign_mul, Int.sign_eq_one_of_pos (show (0 : Int) < g by omega), Int.one_mul]
theorem sign_mul' (p q : Rat) : (p * q).num.sign = p.num.sign * q.num.sign := by
  rw [Rat.num_mul, ← Int.sign_mul]
  refine sign_ediv ?_ ?_
  · exact Nat.pos_of_ne_zero fun e => by have := Nat.eq_zero_of_gcd_eq_zero_right e; have := Nat.mul_pos p.den_pos q.den_pos; omega
  · exact Int.ofNat_dvd_left.2 (Nat.gcd_dvd_left ..)
theorem sign_neg' (q : Rat) : (-q).num.sign = -q.num.sign := by rw [Rat.neg_num, Int.sign_neg]
theorem sign_le' (q : Rat) : q.num.sign ≤ 0 ↔ q ≤ 0 := by
  have h1 : q.num.sign ≤ 0 ↔ 0 ≤ (-q).num := by
    rw [Rat.neg_num]
    rcases Int.lt_trichotomy q.num 0 with h | h | h
    · rw [Int.sign_eq_neg_one_of_neg h]; omega
    · rw [h]; simp
    · rw [Int.sign_eq_one_of_pos h]; omega
  rw [h1, Rat.num_nonneg]
  grind
theorem sign_zero' (q : Rat) : q.num.sign = 0 ↔ q = 0 := by rw [Int.sign_eq_zero_iff_zero, Rat.num_eq_zero]
theorem sign_in (x : Int) : -1 ≤ x.sign ∧ x.sign ≤ 1 := by
  rcases Int.lt_trichotomy x 0 with h | h | h
  · rw [Int.sign_eq_neg_one_of_neg h]; omega
  · rw [h]; simp
  · rw [Int.sign_eq_one_of_pos h]; omega
theorem P_NumberOrder (a : List UInt8) (ha : SL a) (b : List UInt8) (hb : SL b) (c : List UInt8) (hc : SL c) (k : List Int) (hk : IL k) (l : List Int) (hl : IL l) (m : List Int) (hm : IL m) : l_NumberOrder a b c k l m = some ((true, ()), ()) := by
  obtain ⟨p, e1, d1⟩ := pick_eq a k
  obtain ⟨q, e2, d2⟩ := pick_eq b l
  obtain ⟨s, e3, d3⟩ := pick_eq c m
  have a1 := D_add p s
  have a2 := D_add q s
  have a3 := D_mul p s
  have a4 := D_mul q s
  have a5 := D_sub p q
  unfold l_NumberOrder
  simp (disch := omega) only [e1, e2, e3, bind_some', Add_t, Mul_t, Sub_t, Cmp_t, Sign_t, txt_beq, awake_eq]
  have f1 : (q - p).num.sign = -(p - q).num.sign := by rw [← sign_neg', show -(p - q) = q - p by grind]
  have f2 : p + s - (q + s) = p - q := by grind
  have f3 : (p * s - q * s).num.sign = (p - q).num.sign * s.num.sign := by rw [← sign_mul', show (p - q) * s = p * s - q * s by grind]
  have g1 := sign_in (p - q).num
  have g2 := sign_in s.num
  have g3 : -1 ≤ (p - q).num.sign * s.num.sign ∧ (p - q).num.sign * s.num.sign ≤ 1 := by rw [← Int.sign_mul]; exact sign_in _
  have f4 : ((p - q).num.sign == 0) = decide (p = q) := by
    rw [show ((p - q).num.sign == 0) = decide ((p - q).num.sign = 0) from rfl]
    exact decide_eq_decide.2 ((sign_zero' _).trans (by constructor <;> intro h <;> grind))
  rw [f1, f2, f3, f4, w64 (x := 0 - -(p - q).num.sign) (by omega), w64 (x := (p - q).num.sign * s.num.sign) (by omega)]
  rw [cond_nf (show (p - q).num.sign = 0 - -(p - q).num.sign by omega), cond_nf rfl, cond_nf rfl]
  simp only [beq_self_eq_true, Bool.not_true, cond_f, cond_t]
  by_cases h1 : (p - q).num.sign ≤ 0
  · rw [cond_dt h1]
    by_cases h2 : (q - s).num.sign ≤ 0
    · rw [cond_dt h2]
      have h3 : ¬ (p - s).num.sign > 0 := by
        rw [sign_le'] at h1 h2
        have : (p - s).num.sign ≤ 0 := (sign_le' _).2 (by grind)
        omega
      rw [cond_df h3]
    · rw [cond_df h2]
  · rw [cond_df h1]
end Go.AM.Num
end
section
set_option linter.unusedSimpArgs false
set_option linter.unusedVariables false
namespace Go.AM.Num
theorem D_ceil (q : Rat) : D ((q.ceil : Int) : Rat) ≤ D q + 1 := by
  rw [Rat.ceil_eq_neg_floor_neg, Rat.intCast_neg, D_neg]
  have := D_floor (-q); rw [D_neg q] at this; exact this
theorem int_of_eq {q : Rat} {n : Int} (h : ((n : Int) : Rat) = q) : q.den = 1 := by rw [← h]; exact Rat.den_intCast n
theorem P_NumberRounding (a : List UInt8) (ha : SL a) (l : List Int) (hl : IL l) : l_NumberRounding a l = some ((true, ()), ()) := by
  obtain ⟨p, e1, d1⟩ := pick_eq a l
  have a1 := D_floor p
  have a2 := D_ceil p
  have a3 := D_neg p
  have a4 := D_floor (-p)
  have a5 := D_sub ((p.ceil : Int) : Rat) ((p.floor : Int) : Rat)
  have do1 := D_one
  unfold l_NumberRounding
  simp (disch := omega) only [e1, bind_some', Floor_t, Ceil_t, IsInt_t, Sub_t, Cmp_t, Neg_t, t1, txt_beq, awake_eq, Rat.den_intCast]
  have f1 : ¬ ((p.floor : Rat) - p).num.sign > 0 := by
    have : ((p.floor : Rat) - p).num.sign ≤ 0 := (sign_le' _).2 (by have := Rat.floor_le p; grind)
    omega
  have f2 : ¬ (p - (p.ceil : Rat)).num.sign > 0 := by
    have : (p - (p.ceil : Rat)).num.sign ≤ 0 := (sign_le' _).2 (by have := Rat.le_ceil (x := p); grind)
    omega
  have f3 : ¬ ((p.ceil : Rat) - (p.floor : Rat) - ((1 : Int) : Rat)).num.sign > 0 := by
    have hle : p.ceil ≤ p.floor + 1 := Rat.ceil_le_iff.2 (by have := Rat.lt_floor_add_one p; grind)
    have : ((p.ceil : Rat) - (p.floor : Rat) - ((1 : Int) : Rat)).num.sign ≤ 0 := by
      rw [← Rat.intCast_sub, ← Rat.intCast_sub, Rat.num_intCast]
      rcases Int.lt_trichotomy (p.ceil - p.floor - 1) 0 with h | h | h
      · rw [Int.sign_eq_neg_one_of_neg h]; omega
      · rw [h]; simp
      · omega
    omega
  have f4 : (p.ceil : Rat) = -(((-p).floor : Int) : Rat) := by rw [Rat.ceil_eq_neg_floor_neg, Rat.intCast_neg]
  have key : (p.den == 1) = decide ((p.floor : Rat) = p) := by
    rw [show (p.den == 1) = decide (p.den = 1) from rfl]
    refine decide_eq_decide.2 ⟨fun h => ?_, int_of_eq⟩
    have e := den_one h
    rw [e, Rat.floor_intCast]
  have f5 : decide ((p.floor : Rat) = (p.ceil : Rat)) = decide ((p.floor : Rat) = p) := by
    refine decide_eq_decide.2 ⟨fun h => ?_, fun h => ?_⟩
    · have h1 := Rat.floor_le p
      have h2 := Rat.le_ceil (x := p)
      rw [← h] at h2
      exact Rat.le_antisymm h1 h2
    · have : p.ceil = p.floor := by
        have : (p.floor : Rat).ceil = p.floor := Rat.ceil_intCast _
        rw [h] at this; exact this
      rw [this]
  simp only [beq_self_eq_true, Bool.not_true, cond_f]
  rw [cond_df f1, cond_df f2, cond_df f3, decide_eq_true f4, f5, key]
  simp only [beq_self_eq_true, Bool.not_true, cond_f, cond_t]
end Go.AM.Num
end
section
set_option linter.unusedVariables false
namespace Go.Proofs.YtollagkikaapjaaGreatDoor.numberRounding
open Go.ChangeShapes Go.WideShapes Go.ChangeAt Go.RowKit Go.AM Go.AM.Num
open Go.ChangeMaps (open_string shut_string)
theorem reads (os : Os) {H : Type} (enc : TypeId × Value → H) : ∃ places, DataW.whole enc Tryz.prog ((laidWorld os).forCall (fun _ _ => 0) ⟨#[], #[.string ByteArray.empty, .slice none 0 0], []⟩).memory Tryz.f6.params.toList Rows.numberRoundingSpec.vars false (#[.string ByteArray.empty, .slice none 0 0] : Array Value).toList 8 = some ([.lit (.string []), .nil], [], places) :=
  ⟨[], by kernel_rfl⟩
set_option maxRecDepth 100000 in
theorem lifted (os : Os) (started : os.Started) (H : Type) (enc : TypeId × Value → H) (F : Stop.Interp) :
    ReturnsInHanded {} Tryz.checked os 6 .any ((OpenSpec.ofChange Rows.numberRoundingSpec).preRow enc Tryz.prog Tryz.f6 Rows.numberRoundingRow.domain false Rows.numberRoundingRow.laid) (((OpenSpec.ofChange Rows.numberRoundingSpec).at F).post enc Tryz.prog Tryz.f6 false true false false) := by
  obtain ⟨places, hx⟩ := reads os enc
  refine returnsInHanded_of_row (C := Tryz.checked) (s := OpenSpec.ofChange Rows.numberRoundingSpec) Num.own started (by kernel_rfl) Tryz.func6
    (witness_row_atRef (enc := enc) (C := Tryz.checked) false (laidWorld os) #[.string ByteArray.empty, .slice none 0 0] rfl (laid_var os _) (laid_drop os _) (by kernel_rfl)
      (OpenSpec.preRow_of_cond 8 hx (by kernel_rfl) (fun k hk => by cases hk) (by kernel_rfl) (laid_met os _))) ?_
  intro W base args ds gs before hval0 hW _ _ _ hL hsh _
  have hval : ∀ (j : Nat) t v, Tryz.f6.params[j]? = some t → args[j]? = some v → Value.okWide Tryz.prog W .any base t v := hval0
  have hW' := hW
  obtain ⟨p, q, hA0, hV, rfl, hfz, hnd⟩ := hW
  have hA : DataW.TrodAll enc Tryz.prog W 0 (fun _ => true) true Tryz.f6.params.toList args.toList ds p := hA0
  rw [Tryz.params6] at hA hval
  obtain ⟨v0, vs0, d0, ds0, p0, q0, hargs, rfl, rfl, h0, r0⟩ := trodAll_cons hA
  obtain ⟨v1, vs1, d1, ds1, p1, q1, rfl, rfl, rfl, h1, r1⟩ := trodAll_cons r0
  obtain ⟨rfl, rfl, rfl⟩ := trodAll_nil r1
  obtain rfl : args = #[v0, v1] := by cases args; simp_all
  obtain ⟨rfl, rfl⟩ := trodVars_none hV
  obtain ⟨a0, rfl, rfl, rfl, y0⟩ := open_string Tryz.underlying9 (hval 0 9 v0 rfl rfl) h0
  obtain ⟨a1, len1, cap1, rfl⟩ := okWide_slice Tryz.underlying22 (hval 1 22 v1 rfl rfl)
  have k1 := h1
  have lt1 : ∀ x ∈ p1, x.block < W.heap.size := by obtain ⟨m, hm⟩ := k1; exact DataW.trod_lt m _ _ _ hm
  obtain ⟨l1, rfl, hm1, hw1, tv1⟩ := ints_tv Tryz.underlying22 Tryz.underlying3 (by kernel_rfl) h1
  clear hA0 hval0
  have hp := P_NumberRounding a0.data.toList (sl_of y0) l1 (il_of hm1 hw1)
  refine (law_calls G_l_NumberRounding (fun _ => rfl) (a0.data.toList, l1, ()) ((true, ()) : tysR [.val .bool]) () hp (fun _ _ _ _ _ h => res_true h) W (gn_of hL hsh) #[.string a0, .slice a1 l1.length cap1] ⟨_, _, rfl, str_tv' _, ⟨_, _, rfl, tv1, rfl⟩⟩).mono fun e W' ⟨he, bel⟩ => ?_
  subst he
  exact ⟨_, rfl, _, _, _, [], _, [], hW', trodAll_mk1 (shut_bool Tryz.underlying4 _), (trodAll_cons_mk (shut_string Tryz.underlying9 y0) (trodAll_cons_mk (Below.trod laidOut (by kernel_rfl) (of_decide_eq_true (by kernel_rfl)) k1 bel lt1) trodAll_mk0)), rfl, bel.frame _, fun h => by cases h⟩

theorem said : Rows.NumberRoundingSaid :=
  OpenClaim.holds_of_cond 6 Tryz.f6 rfl rfl rfl rfl rfl rfl rfl ⟨rfl, rfl, rfl, rfl, rfl⟩ rfl rfl rfl rfl rfl (by kernel_rfl) Tryz.func6 (by kernel_rfl)
    (of_decide_eq_true (by kernel_rfl)) (by unfold Func.isWrapper; first | (rw [if_pos (by decide +kernel)]; kernel_rfl) | (rw [if_neg (by decide +kernel)]; exact ⟨rfl, rfl⟩))
    (fun os started H enc _ F => by rw [OpenClaim.pre_eq_preRow]; exact lifted os started H enc F)

/-- No parameter wants a stand-in; the program's own looks are on. -/
theorem plain (f : FuncId) (fn : Func) (hf : Tryz.pinned.checked.prog.funcNamed "chcsolver/chcsolverlaw01.NumberRounding" = some f) (hfn : Tryz.pinned.checked.prog.funcs[f]? = some fn) :
    true = Tryz.pinned.checked.prog.looks [] ∧ ∀ (j : Nat) t, fn.params[j]? = some t → Tryz.pinned.checked.prog.wantsStandIn t = false := by
  obtain rfl : f = 6 := Option.some.inj ((show Tryz.prog.funcNamed "chcsolver/chcsolverlaw01.NumberRounding" = some 6 by kernel_rfl).symm.trans hf) |>.symm
  obtain rfl : fn = Tryz.f6 := (Option.some.inj (Tryz.func6.symm.trans hfn)).symm
  refine ⟨by kernel_rfl, fun j t ht => ?_⟩
  rw [Tryz.params6] at ht
  have hm : t ∈ [9, 22] := by simpa using Array.mem_of_getElem? ht
  simp only [List.mem_cons, List.mem_nil_iff, or_false] at hm
  rcases hm with rfl | rfl
  · exact (show Tryz.prog.wantsStandIn 9 = false by kernel_rfl)
  · exact (show Tryz.prog.wantsStandIn 22 = false by kernel_rfl)
end Go.Proofs.YtollagkikaapjaaGreatDoor.numberRounding
namespace Go.Proofs.YtollagkikaapjaaGreatDoor
/-- THE CARD of NumberRounding. -/
theorem numberRounding_holds : Rows.NumberRoundingCardSaid :=
  Claim7.holds_tied_plain_at .later [] _ _ _ _ numberRounding.said (fun _ h => by cases h) (by kernel_rfl) (fun _ h => by cases h) numberRounding_row_tie rfl ⟨rfl, rfl⟩ (by kernel_rfl) rfl numberRounding.plain (by kernel_rfl)
end Go.Proofs.YtollagkikaapjaaGreatDoor
end
