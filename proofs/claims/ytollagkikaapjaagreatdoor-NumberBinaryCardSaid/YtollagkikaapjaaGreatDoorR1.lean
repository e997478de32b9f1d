/- The calls of the laws: from the world of the statement to plain data and back. No condition beyond what each statement says. -/
import Derived.Test.YtollagkikaapjaaGreatDoorN3
import Derived.Test.YtollagkikaapjaaGreatDoorRows
import Derived.Shelf.Vars
import Derived.Lib.LaidTab
import Derived.ProofKit
import Derived.MakeChecks
import Derived.OpenShut
import Derived.Lib.Strings
import Derived.SliceStrings
import Derived.SizedLaws
import Derived.Test.YtollagkikaapjaaGreatDoorCards
import Derived.Test.YtollagkikaapjaaGreatDoorTie
import Derived.ShutString
import Derived.ChangeOld
import Derived.Below
import Derived.LaidMore
import Derived.Deep.DeepHandedRow
import Derived.Deep.DeepWitnessRowRef
import GoSem.PinnedTables
set_option linter.unusedSimpArgs false
set_option linter.unusedVariables false
section
namespace Go.AM.Num
open Go.Proofs Go.Proofs.YtollagkikaapjaaGreatDoor

theorem gMax : Tryz.prog.globalNamed "internal/bytealg.MaxLen" = some 0 := by kernel_rfl
theorem gSyn : Tryz.prog.globalNamed "strconv.ErrSyntax" = some 1 := by kernel_rfl
theorem gRng : Tryz.prog.globalNamed "strconv.ErrRange" = some 2 := by kernel_rfl
theorem gPow : Tryz.prog.globalNamed "internal/strconv.uint64pow10" = some 3 := by kernel_rfl
theorem tPow : (Tryz.prog.globals[3]?).map (·.type) = some 156 := by kernel_rfl
theorem tSyn : (Tryz.prog.globals[1]?).map (·.type) = some 81 := by kernel_rfl
theorem tRng : (Tryz.prog.globals[2]?).map (·.type) = some 81 := by kernel_rfl

/-- A cell of an interface's type that reads as data. -/
theorem iface_of_trod {H : Type} {enc : TypeId × Value → H} {P : Program} {w : World} {base : Nat} {sp : Nat → Bool} {held : Bool} {fuel : Nat} {t : TypeId} {ms : Array (String × TypeId)} {cs : List Value} {y : DataW H × List MemPlace}
    (ht : P.underlying t = some (.interface ms)) (h : DataW.trod enc P w base sp held fuel t cs = some y) : ∃ ev, cs = [ev] ∧ (ev = .nilIface ∨ ∃ te pe, ev = .iface te pe) := by
  cases fuel with
  | zero => simp [DataW.trod] at h
  | succ fuel =>
    simp only [DataW.trod, ht] at h
    split at h <;> simp_all

theorem max_of {W : World} (h : W.ShapedOpen Tryz.prog) : ∃ m, W.cell? ⟨0, 0, none⟩ = some (.int .i64 m) :=
  cell_of_shapedOpen_int (t := 3) (zero := #[.int .i64 0]) h (of_decide_eq_true (by kernel_rfl)) (by kernel_rfl) rfl (by kernel_rfl) (by kernel_rfl) Tryz.underlying3

theorem gn_of {W : World} (hL : laidMetH Tryz.prog Rows.numberParseRow.laid W) (hsh : W.ShapedOpen Tryz.prog) : GN W := by
  rw [MakeChecks.laidMetH_plain _ _ _ (by kernel_rfl)] at hL
  obtain ⟨ps, ⟨g0, t0, cs0, f0, p0, q0, hg0, ht0, hv0, hd0, ⟨g1, t1, cs1, f1, p1, q1, hg1, ht1, hv1, hd1, ⟨g2, t2, cs2, f2, p2, q2, hg2, ht2, hv2, hd2, ⟨g3, t3, cs3, f3, p3, q3, hg3, ht3, hv3, hd3, ⟨g4, t4, cs4, f4, p4, q4, hg4, ht4, hv4, hd4, ⟨g5, t5, cs5, f5, p5, q5, hg5, ht5, hv5, hd5, _⟩, _⟩, _⟩, _⟩, _⟩, _⟩, _⟩ := hL
  obtain rfl := Option.some.inj (gPow.symm.trans hg2)
  obtain rfl := Option.some.inj (tPow.symm.trans ht2)
  obtain rfl := Option.some.inj (gRng.symm.trans hg4)
  obtain rfl := Option.some.inj (tRng.symm.trans ht4)
  obtain rfl := Option.some.inj (gSyn.symm.trans hg5)
  obtain rfl := Option.some.inj (tSyn.symm.trans ht5)
  refine ⟨max_of hsh, ?_, ?_, ?_⟩
  · obtain ⟨ev, h1, h2⟩ := iface_of_trod Tryz.underlying81 hd5
    refine ⟨ev, ?_, h2⟩
    have := World.var?_cell hg5 hv5 0
    have e : cs5 = #[ev] := by obtain ⟨l⟩ := cs5; simpa using h1
    rw [e] at this
    simpa using this
  · obtain ⟨ev, h1, h2⟩ := iface_of_trod Tryz.underlying81 hd4
    refine ⟨ev, ?_, h2⟩
    have := World.var?_cell hg4 hv4 0
    have e : cs4 = #[ev] := by obtain ⟨l⟩ := cs4; simpa using h1
    rw [e] at this
    simpa using this
  · have e : (Rows.laid_internal_strconv_uint64pow10 : DataW Unit) = Lib.tabData .u64 Lib.pow10Tab := by kernel_rfl
    rw [e] at hd2
    unfold Lib.TabIs
    rw [hv2, ← Lib.cells_of_tab Tryz.underlying156 Tryz.underlying104 (by kernel_rfl) (by kernel_rfl) hd2]

theorem gn_keep {w w' : World} (h : GN w) (hb : ∀ B, B < 4 → w'.heap[B]? = w.heap[B]?) : GN w' := by
  have hc : ∀ B o, B < 4 → w'.cell? ⟨B, o, none⟩ = w.cell? ⟨B, o, none⟩ := fun B o hB => by simp [World.cell?, hb B hB]
  refine ⟨?_, ?_, ?_, ?_⟩
  · rw [hc 0 0 (by decide)]; exact h.maxLen
  · rw [hc 1 0 (by decide)]; exact h.errS
  · rw [hc 2 0 (by decide)]; exact h.errR
  · have := h.pow10
    unfold Lib.TabIs World.var? at this ⊢
    rw [gPow] at this ⊢
    simp only [Option.bind_some] at this ⊢
    rw [hb 3 (by decide)]
    exact this
theorem gn_size {w : World} (h : GN w) : 4 ≤ w.heap.size := by
  have := h.pow10.cell gPow 0 (by decide)
  exact World.block_lt_of_cell? w ⟨3, 0, none⟩ this
end Go.AM.Num
end
section
namespace Go.AM.Num
open Go.Proofs
/-- What is known of the world: the tables. -/
noncomputable def VN : Env where
  P := Tryz.prog
  gb := 4
  G := GN
  keep := fun w w' h _ hb => gn_keep h hb
  mixed := by kernel_rfl
theorem G_strings_CutPrefix : Good VN 50 strings_CutPrefix_C := strings_CutPrefix_good rfl
theorem G_strings_Cut : Good VN 51 strings_Cut_C := strings_Cut_good rfl (fun _ h => h)
theorem G_strings_Repeat : Good VN 54 strings_Repeat_C := strings_Repeat_good rfl
theorem G_strconv_Itoa : Good VN 90 strconv_Itoa_C := strconv_Itoa_good rfl (fun _ h => h)
theorem G_strconv_FormatInt : Good VN 109 strconv_FormatInt_C := strconv_FormatInt_good rfl (fun _ h => h)
theorem G_strings_Trim : Good VN 95 strings_Trim_C := strings_Trim_good rfl
theorem G_strconv_ParseInt : Good VN 128 strconv_ParseInt_C := strconv_ParseInt_good rfl
theorem G_strconv_Atoi : Good VN 91 strconv_Atoi_C := strconv_Atoi_good rfl (fun _ h => h)
theorem G_strconv_FormatUint : Good VN 119 strconv_FormatUint_C := strconv_FormatUint_good rfl (fun _ h => h)
theorem G_n_nat_text : Good VN 81 n_nat_text_C := n_nat_text_good rfl (fun _ h => h)
theorem G_l_short : Good VN 13 l_short_C := l_short_good rfl
theorem G_n_figures : Good VN 52 n_figures_C := n_figures_good rfl G_strings_Trim
theorem G_n_nat_trim : Good VN 96 n_nat_trim_C := n_nat_trim_good rfl
theorem G_n_natOf : Good VN 53 n_natOf_C := n_natOf_good rfl G_n_nat_trim
theorem G_n_nat_trim_v : Good VN 96 n_nat_trim_v_C := n_nat_trim_v_good rfl
theorem G_n_nat_mul_r : Good VN 110 n_nat_mul_r_C := n_nat_mul_r_good rfl G_n_nat_trim_v
theorem G_n_nat_cmp : Good VN 112 n_nat_cmp_C := n_nat_cmp_good rfl
theorem G_n_nat_quoLimb : Good VN 142 n_nat_quoLimb_C := n_nat_quoLimb_good rfl G_n_nat_trim
theorem G_n_subtract : Good VN 164 n_subtract_C := n_subtract_good rfl
theorem G_n_nat_at : Good VN 145 n_nat_at_C := n_nat_at_good rfl
theorem G_n_restore : Good VN 165 n_restore_C := n_restore_good rfl G_n_nat_at
theorem G_n_reduce : Good VN 143 n_reduce_C := n_reduce_good rfl G_n_subtract G_n_restore
theorem G_n_nat_quoRem : Good VN 104 n_nat_quoRem_C := n_nat_quoRem_good rfl G_n_nat_trim G_n_nat_mul_r G_n_nat_cmp G_n_nat_quoLimb G_n_reduce
theorem G_n_gcd : Good VN 80 n_gcd_C := n_gcd_good rfl G_n_nat_quoRem
theorem G_n_nat_one : Good VN 103 n_nat_one_C := n_nat_one_good rfl
theorem G_n_lowest : Good VN 55 n_lowest_C := n_lowest_good rfl G_n_gcd G_n_nat_one G_n_nat_quoRem
theorem G_n_rat_text : Good VN 56 n_rat_text_C := n_rat_text_good rfl G_n_nat_text G_n_nat_one
theorem G_n_Parse : Good VN 17 n_Parse_C := n_Parse_good rfl G_strings_CutPrefix G_strings_Cut G_n_figures G_n_natOf G_strings_Repeat G_n_lowest G_n_rat_text
theorem G_n_divisor : Good VN 108 n_divisor_C := n_divisor_good rfl
theorem G_n_fraction : Good VN 64 n_fraction_C := n_fraction_good rfl G_n_divisor G_strconv_FormatInt
theorem G_n_Add_1 : Good VN 63 n_Add_1_C := n_Add_1_good rfl G_n_fraction
theorem G_n_nat_mul : Good VN 110 n_nat_mul_C := n_nat_mul_good rfl G_n_nat_trim
theorem G_n_nat_add : Good VN 111 n_nat_add_C := n_nat_add_good rfl G_n_nat_trim G_n_nat_at
theorem G_n_nat_sub : Good VN 113 n_nat_sub_C := n_nat_sub_good rfl G_n_nat_trim G_n_nat_at
theorem G_n_rat_add : Good VN 66 n_rat_add_C := n_rat_add_good rfl G_n_lowest G_n_nat_mul G_n_nat_add G_n_nat_cmp G_n_nat_sub
theorem G_n_Add_2 : Good VN 65 n_Add_2_C := n_Add_2_good rfl G_n_rat_text G_n_rat_add
theorem G_n_numeral : Good VN 72 n_numeral_C := n_numeral_good rfl
theorem G_n_read : Good VN 79 n_read_C := n_read_good rfl G_strings_CutPrefix G_strings_Cut G_n_natOf G_n_numeral G_n_gcd G_n_nat_one
theorem G_n_smallOf : Good VN 92 n_smallOf_C := n_smallOf_good rfl G_strings_CutPrefix G_strings_Cut G_n_numeral G_n_divisor G_strconv_ParseInt
theorem G_n_two_a : Good VN 62 n_two_a_C := n_two_a_good rfl G_n_Add_1 G_n_Add_2 G_n_read G_n_smallOf
theorem G_n_Add : Good VN 21 n_Add_C := n_Add_good rfl G_n_two_a
theorem G_n_IsInt : Good VN 28 n_IsInt_C := n_IsInt_good rfl G_strings_CutPrefix G_n_numeral
theorem G_n_rat_quoRem : Good VN 121 n_rat_quoRem_C := n_rat_quoRem_good rfl G_n_nat_quoRem G_n_nat_add G_n_nat_sub
theorem G_n_quoRem : Good VN 83 n_quoRem_C := n_quoRem_good rfl G_n_IsInt G_n_rat_text G_n_read G_n_rat_quoRem
theorem G_n_Rem : Good VN 43 n_Rem_C := n_Rem_good rfl G_n_quoRem
theorem G_n_Quo : Good VN 45 n_Quo_C := n_Quo_good rfl G_n_quoRem
theorem G_n_Valid : Good VN 49 n_Valid_C := n_Valid_good rfl G_n_read G_n_smallOf
theorem G_l_awake : Good VN 14 l_awake_C := l_awake_good rfl G_n_Parse G_n_Add G_n_Rem G_n_Quo G_n_Valid
theorem G_r_FromInt : Good VN 15 r_FromInt_C := r_FromInt_good rfl
theorem G_g_Mod : Good VN 16 g_Mod_C := g_Mod_good rfl
theorem G_r_digits : Good VN 57 r_digits_C := r_digits_good rfl
theorem G_r_trim : Good VN 59 r_trim_C := r_trim_good rfl
theorem G_r_cmpMag : Good VN 116 r_cmpMag_C := r_cmpMag_good rfl
theorem G_r_subMag : Good VN 117 r_subMag_C := r_subMag_good rfl G_r_trim
theorem G_r_divMag : Good VN 106 r_divMag_C := r_divMag_good rfl G_r_trim G_r_cmpMag G_r_subMag
theorem G_r_gcdMag : Good VN 105 r_gcdMag_C := r_gcdMag_good rfl G_r_divMag
theorem G_r_reduce : Good VN 58 r_reduce_C := r_reduce_good rfl G_r_gcdMag G_r_divMag
theorem G_r_ratio_text : Good VN 60 r_ratio_text_C := r_ratio_text_good rfl
theorem G_r_ParseDecimal : Good VN 18 r_ParseDecimal_C := r_ParseDecimal_good rfl G_r_digits G_r_reduce G_r_trim G_r_ratio_text
theorem G_l_NumberParse : Good VN 3 l_NumberParse_C := l_NumberParse_good rfl G_l_short G_l_awake G_r_FromInt G_g_Mod G_n_Parse G_r_ParseDecimal
theorem G_g_New : Good VN 36 g_New_C := g_New_good rfl
theorem G_r_parse : Good VN 107 r_parse_C := r_parse_good rfl G_r_digits G_r_reduce G_r_trim G_r_ratio_text
theorem G_r_mulMag : Good VN 114 r_mulMag_C := r_mulMag_good rfl G_r_trim
theorem G_r_Div : Good VN 76 r_Div_C := r_Div_good rfl G_r_reduce G_r_ratio_text G_r_parse G_r_mulMag
theorem G_g_Choices_Next : Good VN 78 g_Choices_Next_C := g_Choices_Next_good rfl G_g_Mod
theorem G_r_Mul : Good VN 85 r_Mul_C := r_Mul_good rfl G_r_reduce G_r_ratio_text G_r_parse G_r_mulMag
theorem G_g_Choices_Integer : Good VN 77 g_Choices_Integer_C := g_Choices_Integer_good rfl G_r_FromInt G_g_Choices_Next G_r_Mul
theorem G_g_Choices_Number : Good VN 37 g_Choices_Number_C := g_Choices_Number_good rfl G_r_FromInt G_r_Div G_g_Choices_Integer G_g_Choices_Next
theorem G_r_Valid : Good VN 61 r_Valid_C := r_Valid_good rfl G_r_parse
theorem G_l_pick : Good VN 19 l_pick_C := l_pick_good rfl G_l_short G_g_New G_g_Choices_Number G_r_Valid
theorem G_n_Sign : Good VN 23 n_Sign_C := n_Sign_good rfl G_n_Valid
theorem G_n_Neg : Good VN 29 n_Neg_C := n_Neg_good rfl G_n_Sign
theorem G_n_Sub : Good VN 24 n_Sub_C := n_Sub_good rfl G_n_Add G_n_Neg
theorem G_n_Cmp : Good VN 20 n_Cmp_C := n_Cmp_good rfl G_n_Sign G_n_Sub
theorem G_n_Mul_1 : Good VN 67 n_Mul_1_C := n_Mul_1_good rfl G_n_fraction
theorem G_n_rat_mul : Good VN 69 n_rat_mul_C := n_rat_mul_good rfl G_n_lowest G_n_nat_mul
theorem G_n_Mul_2 : Good VN 68 n_Mul_2_C := n_Mul_2_good rfl G_n_rat_text G_n_rat_mul
theorem G_n_two_m : Good VN 62 n_two_m_C := n_two_m_good rfl G_n_Mul_1 G_n_Mul_2 G_n_read G_n_smallOf
theorem G_n_Mul : Good VN 22 n_Mul_C := n_Mul_good rfl G_n_two_m
theorem G_l_NumberOrder : Good VN 4 l_NumberOrder_C := l_NumberOrder_good rfl G_l_awake G_l_pick G_n_Cmp G_n_Add G_n_Mul G_n_Sign G_n_Sub
theorem G_n_Div_1 : Good VN 70 n_Div_1_C := n_Div_1_good rfl G_n_fraction
theorem G_n_Div_2 : Good VN 71 n_Div_2_C := n_Div_2_good rfl G_n_rat_text G_n_rat_mul
theorem G_n_two_d : Good VN 62 n_two_d_C := n_two_d_good rfl G_n_Div_1 G_n_Div_2 G_n_read G_n_smallOf
theorem G_n_Div : Good VN 25 n_Div_C := n_Div_good rfl G_n_two_d
theorem G_l_NumberField : Good VN 5 l_NumberField_C := l_NumberField_good rfl G_l_awake G_l_pick G_n_Add G_n_Mul G_n_Sub G_n_Div
theorem G_n_Num : Good VN 38 n_Num_C := n_Num_good rfl G_n_Valid G_strings_Cut
theorem G_n_Den : Good VN 39 n_Den_C := n_Den_good rfl G_n_Valid G_strings_Cut
theorem G_n_Floor : Good VN 26 n_Floor_C := n_Floor_good rfl G_n_Num G_n_Den G_n_Quo
theorem G_n_Ceil : Good VN 27 n_Ceil_C := n_Ceil_good rfl G_n_Floor G_n_Neg
theorem G_l_NumberRounding : Good VN 6 l_NumberRounding_C := l_NumberRounding_good rfl G_l_awake G_l_pick G_n_Cmp G_n_Sub G_n_Floor G_n_Ceil G_n_IsInt G_n_Neg
theorem G_n_Sum : Good VN 30 n_Sum_C := n_Sum_good rfl G_n_Add
theorem G_r_addMag : Good VN 115 r_addMag_C := r_addMag_good rfl G_r_trim
theorem G_r_Add : Good VN 73 r_Add_C := r_Add_good rfl G_r_reduce G_r_ratio_text G_r_parse G_r_mulMag G_r_addMag G_r_cmpMag G_r_subMag
theorem G_r_Sum : Good VN 31 r_Sum_C := r_Sum_good rfl G_r_Add
theorem G_n_best : Good VN 74 n_best_C := n_best_good rfl G_n_Cmp G_n_Valid
theorem G_n_Min : Good VN 32 n_Min_C := n_Min_good rfl G_n_best
theorem G_r_Neg : Good VN 122 r_Neg_C := r_Neg_good rfl G_r_ratio_text G_r_parse
theorem G_r_Sub : Good VN 84 r_Sub_C := r_Sub_good rfl G_r_Add G_r_Neg
theorem G_r_Sign : Good VN 118 r_Sign_C := r_Sign_good rfl G_r_parse
theorem G_r_Cmp : Good VN 75 r_Cmp_C := r_Cmp_good rfl G_r_Valid G_r_Sub G_r_Sign
theorem G_r_Min : Good VN 33 r_Min_C := r_Min_good rfl G_r_Valid G_r_Cmp
theorem G_n_Max : Good VN 34 n_Max_C := n_Max_good rfl G_n_best
theorem G_r_Max : Good VN 35 r_Max_C := r_Max_good rfl G_r_Valid G_r_Cmp
theorem G_l_NumberLists : Good VN 7 l_NumberLists_C := l_NumberLists_good rfl G_l_short G_l_awake G_n_Cmp G_n_Sum G_r_Sum G_n_Min G_r_Min G_n_Max G_r_Max G_g_New G_g_Choices_Number
theorem G_n_Gcd : Good VN 40 n_Gcd_C := n_Gcd_good rfl G_n_IsInt G_n_read G_n_gcd G_n_nat_text
theorem G_l_NumberFraction : Good VN 8 l_NumberFraction_C := l_NumberFraction_good rfl G_l_awake G_l_pick G_n_Sign G_n_Div G_n_IsInt G_n_Num G_n_Den G_n_Gcd
theorem G_r_IsInt : Good VN 82 r_IsInt_C := r_IsInt_good rfl G_r_parse
theorem G_l_whole : Good VN 41 l_whole_C := l_whole_good rfl G_l_short G_g_New G_g_Choices_Integer G_r_IsInt
theorem G_n_Abs : Good VN 44 n_Abs_C := n_Abs_good rfl G_n_Sign G_n_Neg
theorem G_n_Lcm : Good VN 42 n_Lcm_C := n_Lcm_good rfl G_n_Mul G_n_Gcd G_n_Abs G_n_Quo
theorem G_l_NumberDivisors : Good VN 9 l_NumberDivisors_C := l_NumberDivisors_good rfl G_l_awake G_n_Mul G_n_Sign G_n_Gcd G_l_whole G_n_Lcm G_n_Rem G_n_Abs
theorem G_l_NumberDivision : Good VN 10 l_NumberDivision_C := l_NumberDivision_good rfl G_l_awake G_n_Cmp G_n_Add G_n_Mul G_n_Sign G_n_Div G_n_Floor G_l_whole G_n_Rem G_n_Abs G_n_Quo
theorem G_r_Floor : Good VN 123 r_Floor_C := r_Floor_good rfl G_r_ratio_text G_r_divMag G_r_parse G_r_addMag
theorem G_r_Num0 : Good VN 148 r_Num0_C := r_Num0_good rfl G_r_Valid
theorem G_r_Abs : Good VN 124 r_Abs_C := r_Abs_good rfl G_r_Sign G_r_Neg G_r_Num0
theorem G_r_Quo : Good VN 86 r_Quo_C := r_Quo_good rfl G_r_Div G_r_IsInt G_r_Sign G_r_Neg G_r_Floor G_r_Abs
theorem G_r_Rem : Good VN 87 r_Rem_C := r_Rem_good rfl G_r_Sub G_r_Mul G_r_Quo
theorem G_r_Gcd : Good VN 88 r_Gcd_C := r_Gcd_good rfl G_r_IsInt G_r_gcdMag G_r_Abs
theorem G_r_Lcm : Good VN 89 r_Lcm_C := r_Lcm_good rfl G_r_Div G_r_IsInt G_r_Mul G_r_Gcd G_r_Abs
theorem G_l_binary : Good VN 46 l_binary_C := l_binary_good rfl G_n_Cmp G_n_Add G_n_Mul G_n_Sub G_n_Div G_n_Gcd G_n_Lcm G_n_Rem G_n_Quo G_r_Add G_r_Cmp G_r_Div G_r_Sub G_r_Mul G_r_Quo G_r_Rem G_r_Gcd G_r_Lcm
theorem G_l_NumberBinary : Good VN 11 l_NumberBinary_C := l_NumberBinary_good rfl G_l_short G_l_awake G_l_pick G_g_New G_g_Choices_Number G_l_binary
theorem G_n_FromInt : Good VN 47 n_FromInt_C := n_FromInt_good rfl G_strconv_Itoa
theorem G_n_Int : Good VN 48 n_Int_C := n_Int_good rfl G_n_IsInt G_strconv_Atoi
theorem G_l_NumberFromInt : Good VN 12 l_NumberFromInt_C := l_NumberFromInt_good rfl G_l_awake G_r_FromInt G_n_Cmp G_n_Sign G_n_IsInt G_n_FromInt G_n_Int
end Go.AM.Num
end
section
namespace Go.AM.Num
open Go.Proofs Go.Proofs.YtollagkikaapjaaGreatDoor Go.RowKit Go.ChangeShapes Go.WideShapes Go.ChangeAt

/-- A law whose arguments are data: where its pure function gives true, its call returns true and writes nothing that lay. -/
theorem law_calls {k : FuncId} {C : Callee} (hG : Good VN k C) (hin : ∀ x, rowsIn C.ps x = []) (x : tysP C.ps) (y : tysR C.rk) (o : tysO C.ps) (hx : C.g x = some (y, o)) (hy : ∀ rd I β nl vs, resOK rd I β C.rk y nl vs → vs = [.bool true])
    (W : World) (hW : GN W) (vs : Array Value) (ha : argsRel (rdW W) (fun B => B < W.heap.size) (fun _ => none) C.ps x vs.toList 0) :
    Calls Tryz.prog k vs W fun e w' => e = .returned (.bool true) ∧ Below W.heap.size W w' := by
  refine Calls.mono (hG.spec x y o hx W (fun B => B < W.heap.size) (fun _ => none) vs hW (gn_size hW) ?_ ha) ?_
  · rw [hin]
    exact ⟨fun b r h => by simp at h, fun b b' r r' p p' h => by simp at h, fun B hB => ⟨hB, fun ⟨b, r, p, h, _⟩ => by simp at h⟩, fun _ _ => rfl⟩
  · rintro e w' ⟨v, I', rfl, hf, ⟨nl, vl, rfl, hres, _⟩, _⟩
    obtain rfl := hy _ _ _ _ _ hres
    refine ⟨rfl, hf.os, hf.tape, hf.output, hf.size, fun B hB => hf.block B hB ?_⟩
    rw [hin]
    rintro ⟨b, r, p, h, _⟩
    simp at h

theorem res_true {rd : Nat → Nat → Option Value} {I : Nat → Prop} {β : Nat → Option Place} {nl : List Place} {vs : List Value} (h : resOK rd I β [.val .bool] ((true, ()) : tysR [.val .bool]) nl vs) : vs = [.bool true] := by
  simp only [resOK, TV, GT.isAgg, RelC] at h
  obtain ⟨v, vs', rfl, hv, _, rfl⟩ := h
  simp at hv
  simp [hv]

/-- A list of ints that came in; a string that came in. -/
def IL (l : List Int) : Prop := l.length ≤ 9223372036854775807 ∧ ∀ x ∈ l, in64 x
def SL (s : List UInt8) : Prop := s.length ≤ 9223372036854775807
theorem in64_of {n : Int} (h : (Lit.int .i64 n).wf = true) : in64 n := by
  simp only [Lit.wf, Bool.and_eq_true, decide_eq_true_eq] at h
  exact h
theorem il_of {l : List Int} (h : l.length ≤ maxLen) (hw : ∀ x ∈ l, (Lit.int .i64 x).wf = true) : IL l := ⟨by unfold maxLen at h; omega, fun x hx => in64_of (hw x hx)⟩
theorem sl_of {s : ByteArray} (h : s.size ≤ maxLen) : SL s.data.toList := by unfold SL; unfold maxLen at h; have := Lib.size_eq s; omega

/-! ### Arguments -/
section
variable {H : Type} {enc : TypeId × Value → H} {W : World}
theorem add_off (a : Addr) (i : Nat) (h : a.spot = none) : a.add i = ⟨a.block, a.off + i, none⟩ := by
  obtain ⟨b, o, s⟩ := a
  simp only at h; subst h
  simp [Addr.add]
/-- A slice of integers. -/
theorem ints_tv {t e : TypeId} {k : IntKind} {a : Option Addr} {len cap : Nat} {d : DataW H} {p : List MemPlace} (ht : Tryz.prog.underlying t = some (.slice e)) (he : Tryz.prog.underlying e = some (.int k)) (hc : Tryz.prog.cellsOf e = 1) (h : DataW.Trod enc Tryz.prog W 0 (fun _ => true) true t (.slice a len cap) d p) :
    ∃ l : List Int, l.length = len ∧ len ≤ maxLen ∧ (∀ x ∈ l, (Lit.int k x).wf = true) ∧ TV (rdW W) (fun B => B < W.heap.size) (.sl (.int k)) l (.slice a len cap) := by
  obtain ⟨fuel, hf⟩ := h
  rcases open_ints ht he hc hf with ⟨hcs, _⟩ | ⟨x, l, c, zs, hcs, _, hl, hm, hz, _, hcell, hwz⟩
  · simp [Value.cells] at hcs
    obtain ⟨rfl, rfl, rfl⟩ := hcs
    refine ⟨[], rfl, Nat.zero_le _, by simp, ?_⟩
    simp only [TV, GT.isAgg, RelC]
    exact ⟨none, 0, rfl, Nat.le_refl _, fun h => absurd rfl h⟩
  · simp [Value.cells] at hcs
    obtain ⟨rfl, rfl, rfl⟩ := hcs
    simp only [if_true] at hz
    have hzl : zs.length = cap := by simpa using hz
    refine ⟨zs.take len, by simp; omega, by omega, fun y hy => hwz y (List.mem_of_mem_take hy), ?_⟩
    have hg : ∀ i, i < zs.length → W.cell? (x.add i) = some (.int k (zs.getD i 0)) := hcell
    simp only [TV, GT.isAgg, RelC]
    refine ⟨some x, cap, by simp; omega, by simp; omega, fun hne => ?_⟩
    have hpos : 0 < zs.length := by
      have : zs.take len ≠ [] := hne
      rcases zs with _ | ⟨z, zs⟩
      · simp at this
      · simp
    have hspot : x.spot = none := by simpa [Addr.add] using World.cell?_spot (hg 0 hpos)
    have hat : ∀ i, i < zs.length → W.cell? ⟨x.block, x.off + i, none⟩ = some (.int k (zs.getD i 0)) := fun i hi => by
      rw [← add_off x i hspot]; exact hg i hi
    refine ⟨x.block, x.off, by obtain ⟨b, o, s⟩ := x; simp only at hspot; subst hspot; rfl, World.block_lt_of_cell? W ⟨x.block, x.off + 0, none⟩ (hat 0 hpos), fun i z hi => ?_⟩
    have hi1 : i < zs.length := by
      have := (List.getElem?_eq_some_iff.1 hi).1
      simp at this; omega
    have hzi : zs.getD i 0 = z := by
      rw [List.getElem?_take] at hi
      split at hi
      · rw [List.getD_eq_getElem?_getD, hi]; rfl
      · cases hi
    refine ⟨[.int k z], rfl, fun j hj => ?_, rfl⟩
    have : j = 0 := by simp [GT.cells] at hj; omega
    subst this
    have := hat i hi1
    rw [hzi] at this
    simpa [rdW, GT.cells] using this
theorem str_tv' (s : ByteArray) {I : Nat → Prop} : TV (rdW W) I .str s.data.toList (.string s) := by
  simp only [TV, GT.isAgg, RelC]
  exact ⟨s, rfl, rfl⟩
/-- A slice of strings. -/
theorem strs_tv {t e : TypeId} {a : Option Addr} {len cap : Nat} {d : DataW H} {p : List MemPlace} (ht : Tryz.prog.underlying t = some (.slice e)) (he : Tryz.prog.underlying e = some .string) (hc : Tryz.prog.cellsOf e = 1) (h : DataW.Trod enc Tryz.prog W 0 (fun _ => true) true t (.slice a len cap) d p) :
    ∃ l : List (List UInt8), l.length = len ∧ len ≤ maxLen ∧ TV (rdW W) (fun B => B < W.heap.size) (.sl .str) l (.slice a len cap) := by
  obtain ⟨fuel, hf⟩ := h
  rcases open_strings ht he hc hf with ⟨hcs, _⟩ | ⟨x, l, c, ss, hcs, _, hl, hm, hz, _, hcell, _⟩
  · simp [Value.cells] at hcs
    obtain ⟨rfl, rfl, rfl⟩ := hcs
    refine ⟨[], rfl, Nat.zero_le _, ?_⟩
    simp only [TV, GT.isAgg, RelC]
    exact ⟨none, 0, rfl, Nat.le_refl _, fun h => absurd rfl h⟩
  · simp [Value.cells] at hcs
    obtain ⟨rfl, rfl, rfl⟩ := hcs
    simp only [if_true] at hz
    have hzl : ss.length = cap := by simpa using hz
    refine ⟨(ss.take len).map (·.data.toList), by simp; omega, by omega, ?_⟩
    have hg : ∀ i, i < ss.length → W.cell? (x.add i) = some (.string (ss.getD i ByteArray.empty)) := fun i hi => hcell i (by omega)
    simp only [TV, GT.isAgg, RelC]
    refine ⟨some x, cap, by simp; omega, by simp; omega, fun hne => ?_⟩
    have hpos : 0 < ss.length := by
      rcases ss with _ | ⟨z, zs⟩
      · simp at hne
      · simp
    have hspot : x.spot = none := by simpa [Addr.add] using World.cell?_spot (hg 0 hpos)
    have hat : ∀ i, i < ss.length → W.cell? ⟨x.block, x.off + i, none⟩ = some (.string (ss.getD i ByteArray.empty)) := fun i hi => by
      rw [← add_off x i hspot]; exact hg i hi
    refine ⟨x.block, x.off, by obtain ⟨b, o, s⟩ := x; simp only at hspot; subst hspot; rfl, World.block_lt_of_cell? W ⟨x.block, x.off + 0, none⟩ (hat 0 hpos), fun i z hi => ?_⟩
    simp only [List.getElem?_map, Option.map_eq_some_iff] at hi
    obtain ⟨s, hs, rfl⟩ := hi
    have hi1 : i < ss.length := by
      have := (List.getElem?_eq_some_iff.1 hs).1
      simp at this; omega
    have hzi : ss.getD i ByteArray.empty = s := by
      rw [List.getElem?_take] at hs
      split at hs
      · rw [List.getD_eq_getElem?_getD, hs]; rfl
      · cases hs
    refine ⟨[.string s], rfl, fun j hj => ?_, s, rfl, rfl⟩
    have : j = 0 := by simp [GT.cells] at hj; omega
    subst this
    have := hat i hi1
    rw [hzi] at this
    simpa [rdW, GT.cells] using this
end
end Go.AM.Num
end
section
namespace Go.AM.Num
open Go.Proofs Go.Proofs.YtollagkikaapjaaGreatDoor Go.RowKit Go.ChangeShapes Go.WideShapes Go.ChangeAt

noncomputable def laidWorld (os : Os) : World :=
  { World.doorLaid Tryz.prog 400 os with heap := (World.doorLaid Tryz.prog 400 os).heap.modify 4 fun
      | .cells _ t frozen => .cells (Go.Pinned.utf8FirstZ.map fun n => Value.int .u8 (n : Nat)).toArray t frozen
      | o => o }
set_option maxRecDepth 100000 in
theorem laid_met (os : Os) (args : Array Value) : laidMet Tryz.prog Rows.numberParseRow.laid ((laidWorld os).forCall (fun _ _ => 0) ⟨#[], args, []⟩).memory :=
  laidMet_of_run' 8 (by kernel_rfl) (by kernel_rfl)
theorem laid_var (os : Os) (args : Array Value) : (((laidWorld os).forCall (fun _ _ => 0) ⟨#[], args, []⟩).variablesRefB Tryz.prog) = true := by kernel_rfl
theorem laid_drop (os : Os) (args : Array Value) : ((((laidWorld os).forCall (fun _ _ => 0) ⟨#[], args, []⟩).heap.toList.drop Tryz.prog.globals.size).take ((begin Tryz.prog (fun _ _ => 0) default).world.heap.size - Tryz.prog.globals.size) =
      (begin Tryz.prog (fun _ _ => 0) default).world.heap.toList.drop Tryz.prog.globals.size) := by kernel_rfl
theorem own : ownKnob Tryz.prog.godebug = none := by kernel_rfl
theorem laidOut : laidOutB Tryz.prog = true := by kernel_rfl
end Go.AM.Num
end
