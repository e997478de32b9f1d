/- The law holds for every input: its pure part, its row and its card. No condition beyond what each statement says. -/
import Derived.Test.YtollagkikaapjaaGreatDoorR1
import Derived.Test.YtollagkikaapjaaGreatDoorM3
set_option linter.unusedSimpArgs false
set_option linter.unusedVariables false
section
set_option linter.unusedSimpArgs false
set_option linter.unusedVariables false
namespace Go.AM.Num
theorem digit_text (v : Int) : ∃ r t, g_Mod v 10 = some ((r, ()), ()) ∧ r_FromInt r = some ((t, ()), ()) ∧ t.length ≤ 23 := by
  obtain ⟨r, h1, h2, h3⟩ := g_mod_eq v (n := 10) (by omega)
  have := txt_len (r : Rat)
  have := D_small (n := r) (by omega)
  exact ⟨r, _, h1, r_fromInt_eq ⟨by omega, by omega⟩, by omega⟩
theorem np7_eq (s : List UInt8) (l p : List Int) (t : List UInt8) (hl : l.length ≤ 20) (ht : t.length ≤ 10000) :
    ∃ t' i, loopO l_NumberParse_s7 (s, l, p, t, 0, ()) = some (Ex.exit 0, (s, l, p, t', i, ())) ∧ t'.length ≤ 10000 + 23 * 20 := by
  obtain ⟨r, hr, t', i, rfl, h⟩ := loopO_ind (step := l_NumberParse_s7) (Q := fun r => ∃ t' i, r = (Ex.exit 0, (s, l, p, t', i, ())) ∧ t'.length ≤ 10000 + 23 * 20)
    (fun m st => ∃ (k : Nat) (u : List UInt8), m + k = l.length ∧ st = (s, l, p, u, (k : Int), ()) ∧ u.length ≤ 10000 + 23 * k) (by
      rintro m st ⟨k, u, hm, rfl, hu⟩
      by_cases h : k < l.length
      · obtain ⟨r, d, e1, e2, hd⟩ := digit_text (l.getD k 0)
        have e : (k : Int).toNat = k := by omega
        have g : u.length + d.length ≤ maxS := by rw [maxS_eq]; omega
        refine .inr ⟨m - 1, (s, l, p, u ++ d, ((k + 1 : Nat) : Int), ()), ?_, by omega, k + 1, _, by omega, rfl, by rw [List.length_append]; omega⟩
        simp (disch := (first | omega | (simp only [maxN_eq, List.length_append, List.length_cons, List.length_nil, List.length_set, List.length_replicate, List.length_take, List.length_drop]; omega))) only [l_NumberParse_s7, e, e1, e2, grd_dec g, grd_tt, grd_and, grd_dec, grd_ne, cond_dt, cond_df, cond_et, cond_ef, cond_nt, cond_nf, w64, wu64, wu32, wu8, tm, td, bind_some', same_ee, same_er, same_re, same_rr, cond_t, cond_f, Bool.not_true, Bool.not_false]
        rfl
      · refine .inl ⟨(Ex.exit 0, (s, l, p, u, (k : Int), ())), ?_, by simp, u, (k : Int), rfl, by omega⟩
        simp (disch := (first | omega | (simp only [maxN_eq, List.length_append, List.length_cons, List.length_nil, List.length_set, List.length_replicate, List.length_take, List.length_drop]; omega))) only [l_NumberParse_s7, grd_tt, grd_and, grd_dec, grd_ne, cond_dt, cond_df, cond_et, cond_ef, cond_nt, cond_nf, w64, wu64, wu32, wu8, tm, td, bind_some', same_ee, same_er, same_re, same_rr, cond_t, cond_f, Bool.not_true, Bool.not_false]) l.length _ ⟨0, t, by omega, rfl, by omega⟩
  exact ⟨t', i, hr, h⟩
theorem np13_eq (s : List UInt8) (l : List Int) (t : List UInt8) (hl : l.length ≤ 20) (ht : t.length ≤ 20000) :
    ∃ t' i, loopO l_NumberParse_s13 (s, l, t, 0, ()) = some (Ex.exit 2, (s, l, t', i, ())) ∧ t'.length ≤ 20000 + 23 * 20 := by
  obtain ⟨r, hr, t', i, rfl, h⟩ := loopO_ind (step := l_NumberParse_s13) (Q := fun r => ∃ t' i, r = (Ex.exit 2, (s, l, t', i, ())) ∧ t'.length ≤ 20000 + 23 * 20)
    (fun m st => ∃ (k : Nat) (u : List UInt8), m + k = l.length ∧ st = (s, l, u, (k : Int), ()) ∧ u.length ≤ 20000 + 23 * k) (by
      rintro m st ⟨k, u, hm, rfl, hu⟩
      by_cases h : k < l.length
      · obtain ⟨r, d, e1, e2, hd⟩ := digit_text (l.getD k 0)
        have e : (k : Int).toNat = k := by omega
        have g : u.length + d.length ≤ maxS := by rw [maxS_eq]; omega
        refine .inr ⟨m - 1, (s, l, u ++ d, ((k + 1 : Nat) : Int), ()), ?_, by omega, k + 1, _, by omega, rfl, by rw [List.length_append]; omega⟩
        simp (disch := (first | omega | (simp only [maxN_eq, List.length_append, List.length_cons, List.length_nil, List.length_set, List.length_replicate, List.length_take, List.length_drop]; omega))) only [l_NumberParse_s13, e, e1, e2, grd_dec g, grd_tt, grd_and, grd_dec, grd_ne, cond_dt, cond_df, cond_et, cond_ef, cond_nt, cond_nf, w64, wu64, wu32, wu8, tm, td, bind_some', same_ee, same_er, same_re, same_rr, cond_t, cond_f, Bool.not_true, Bool.not_false]
        rfl
      · refine .inl ⟨(Ex.exit 2, (s, l, u, (k : Int), ())), ?_, by simp, u, (k : Int), rfl, by omega⟩
        simp (disch := (first | omega | (simp only [maxN_eq, List.length_append, List.length_cons, List.length_nil, List.length_set, List.length_replicate, List.length_take, List.length_drop]; omega))) only [l_NumberParse_s13, grd_tt, grd_and, grd_dec, grd_ne, cond_dt, cond_df, cond_et, cond_ef, cond_nt, cond_nf, w64, wu64, wu32, wu8, tm, td, bind_some', same_ee, same_er, same_re, same_rr, cond_t, cond_f, Bool.not_true, Bool.not_false]) l.length _ ⟨0, t, by omega, rfl, by omega⟩
  exact ⟨t', i, hr, h⟩
set_option maxHeartbeats 1000000 in
theorem P_NumberParse (s : List UInt8) (hs : SL s) (neg : Bool) (l : List Int) (hl : IL l) (p : List Int) (hp : IL p) : l_NumberParse s neg l p = some ((true, ()), ()) := by
  unfold l_NumberParse
  rw [short1, bind_some']
  by_cases h1 : s.length ≤ 50
  · rw [decide_eq_true h1]
    by_cases h2 : (l.length : Int) > 20
    · rw [cond_dt h2, awake_eq]; rfl
    · rw [cond_df h2]
      by_cases h3 : (p.length : Int) > 20
      · rw [cond_dt h3, awake_eq]; rfl
      · rw [cond_df h3]
        obtain ⟨a1, b1, p1, q1⟩ := parse_both (a := s) (by omega)
        cases neg with
        | true =>
          obtain ⟨t, i, e, ht⟩ := np7_eq s l p [45] (by omega) (by simp)
          by_cases hpl : (p.length : Int) > 0
          · obtain ⟨t2, i2, e2, ht2⟩ := np13_eq s p (t ++ [46]) (by omega) (by simp; omega)
            obtain ⟨a2, b2, p2, q2⟩ := parse_both (a := t2) (by omega)
            have g : t.length + ([46] : List UInt8).length ≤ maxS := by rw [maxS_eq]; simp; omega
            simp only [Bool.not_true, cond_f, cond_t, e, bind_some', same_ee, cond_dt hpl, grd_dec g, e2, p1, q1, p2, q2, beq_self_eq_true, awake_eq]
          · obtain ⟨t2, i2, e2, ht2⟩ := np13_eq s p t (by omega) (by omega)
            obtain ⟨a2, b2, p2, q2⟩ := parse_both (a := t2) (by omega)
            simp only [Bool.not_true, cond_f, cond_t, e, bind_some', same_ee, cond_df hpl, e2, p1, q1, p2, q2, beq_self_eq_true, awake_eq]
        | false =>
          obtain ⟨t, i, e, ht⟩ := np7_eq s l p [] (by omega) (by simp)
          by_cases hpl : (p.length : Int) > 0
          · obtain ⟨t2, i2, e2, ht2⟩ := np13_eq s p (t ++ [46]) (by omega) (by simp; omega)
            obtain ⟨a2, b2, p2, q2⟩ := parse_both (a := t2) (by omega)
            have g : t.length + ([46] : List UInt8).length ≤ maxS := by rw [maxS_eq]; simp; omega
            simp only [Bool.not_true, cond_f, cond_t, e, bind_some', same_ee, cond_dt hpl, grd_dec g, e2, p1, q1, p2, q2, beq_self_eq_true, awake_eq]
          · obtain ⟨t2, i2, e2, ht2⟩ := np13_eq s p t (by omega) (by omega)
            obtain ⟨a2, b2, p2, q2⟩ := parse_both (a := t2) (by omega)
            simp only [Bool.not_true, cond_f, cond_t, e, bind_some', same_ee, cond_df hpl, e2, p1, q1, p2, q2, beq_self_eq_true, awake_eq]
  · rw [decide_eq_false h1, awake_eq]; rfl
end Go.AM.Num
end
section
set_option linter.unusedVariables false
namespace Go.Proofs.YtollagkikaapjaaGreatDoor.numberParse
open Go.ChangeShapes Go.WideShapes Go.ChangeAt Go.RowKit Go.AM Go.AM.Num
open Go.ChangeMaps (open_string shut_string)
theorem reads (os : Os) {H : Type} (enc : TypeId × Value → H) : ∃ places, DataW.whole enc Tryz.prog ((laidWorld os).forCall (fun _ _ => 0) ⟨#[], #[.string ByteArray.empty, .bool false, .slice none 0 0, .slice none 0 0], []⟩).memory Tryz.f3.params.toList Rows.numberParseSpec.vars false (#[.string ByteArray.empty, .bool false, .slice none 0 0, .slice none 0 0] : Array Value).toList 8 = some ([.lit (.string []), .lit (.bool false), .nil, .nil], [], places) :=
  ⟨[], by kernel_rfl⟩
set_option maxRecDepth 100000 in
theorem lifted (os : Os) (started : os.Started) (H : Type) (enc : TypeId × Value → H) (F : Stop.Interp) :
    ReturnsInHanded {} Tryz.checked os 3 .any ((OpenSpec.ofChange Rows.numberParseSpec).preRow enc Tryz.prog Tryz.f3 Rows.numberParseRow.domain false Rows.numberParseRow.laid) (((OpenSpec.ofChange Rows.numberParseSpec).at F).post enc Tryz.prog Tryz.f3 false true false false) := by
  obtain ⟨places, hx⟩ := reads os enc
  refine returnsInHanded_of_row (C := Tryz.checked) (s := OpenSpec.ofChange Rows.numberParseSpec) Num.own started (by kernel_rfl) Tryz.func3
    (witness_row_atRef (enc := enc) (C := Tryz.checked) false (laidWorld os) #[.string ByteArray.empty, .bool false, .slice none 0 0, .slice none 0 0] rfl (laid_var os _) (laid_drop os _) (by kernel_rfl)
      (OpenSpec.preRow_of_cond 8 hx (by kernel_rfl) (fun k hk => by cases hk) (by kernel_rfl) (laid_met os _))) ?_
  intro W base args ds gs before hval0 hW _ _ _ hL hsh _
  have hval : ∀ (j : Nat) t v, Tryz.f3.params[j]? = some t → args[j]? = some v → Value.okWide Tryz.prog W .any base t v := hval0
  have hW' := hW
  obtain ⟨p, q, hA0, hV, rfl, hfz, hnd⟩ := hW
  have hA : DataW.TrodAll enc Tryz.prog W 0 (fun _ => true) true Tryz.f3.params.toList args.toList ds p := hA0
  rw [Tryz.params3] at hA hval
  obtain ⟨v0, vs0, d0, ds0, p0, q0, hargs, rfl, rfl, h0, r0⟩ := trodAll_cons hA
  obtain ⟨v1, vs1, d1, ds1, p1, q1, rfl, rfl, rfl, h1, r1⟩ := trodAll_cons r0
  obtain ⟨v2, vs2, d2, ds2, p2, q2, rfl, rfl, rfl, h2, r2⟩ := trodAll_cons r1
  obtain ⟨v3, vs3, d3, ds3, p3, q3, rfl, rfl, rfl, h3, r3⟩ := trodAll_cons r2
  obtain ⟨rfl, rfl, rfl⟩ := trodAll_nil r3
  obtain rfl : args = #[v0, v1, v2, v3] := by cases args; simp_all
  obtain ⟨rfl, rfl⟩ := trodVars_none hV
  obtain ⟨a0, rfl, rfl, rfl, y0⟩ := open_string Tryz.underlying9 (hval 0 9 v0 rfl rfl) h0
  obtain ⟨a1, rfl, rfl, rfl⟩ := open_bool Tryz.underlying4 (hval 1 4 v1 rfl rfl) h1
  obtain ⟨a2, len2, cap2, rfl⟩ := okWide_slice Tryz.underlying22 (hval 2 22 v2 rfl rfl)
  have k2 := h2
  have lt2 : ∀ x ∈ p2, x.block < W.heap.size := by obtain ⟨m, hm⟩ := k2; exact DataW.trod_lt m _ _ _ hm
  obtain ⟨l2, rfl, hm2, hw2, tv2⟩ := ints_tv Tryz.underlying22 Tryz.underlying3 (by kernel_rfl) h2
  obtain ⟨a3, len3, cap3, rfl⟩ := okWide_slice Tryz.underlying22 (hval 3 22 v3 rfl rfl)
  have k3 := h3
  have lt3 : ∀ x ∈ p3, x.block < W.heap.size := by obtain ⟨m, hm⟩ := k3; exact DataW.trod_lt m _ _ _ hm
  obtain ⟨l3, rfl, hm3, hw3, tv3⟩ := ints_tv Tryz.underlying22 Tryz.underlying3 (by kernel_rfl) h3
  clear hA0 hval0
  have hp := P_NumberParse a0.data.toList (sl_of y0) a1 l2 (il_of hm2 hw2) l3 (il_of hm3 hw3)
  refine (law_calls G_l_NumberParse (fun _ => rfl) (a0.data.toList, a1, l2, l3, ()) ((true, ()) : tysR [.val .bool]) () hp (fun _ _ _ _ _ h => res_true h) W (gn_of hL hsh) #[.string a0, .bool a1, .slice a2 l2.length cap2, .slice a3 l3.length cap3] ⟨_, _, rfl, str_tv' _, ⟨_, _, rfl, bool_tv _, ⟨_, _, rfl, tv2, ⟨_, _, rfl, tv3, rfl⟩⟩⟩⟩).mono fun e W' ⟨he, bel⟩ => ?_
  subst he
  exact ⟨_, rfl, _, _, _, [], _, [], hW', trodAll_mk1 (shut_bool Tryz.underlying4 _), (trodAll_cons_mk (shut_string Tryz.underlying9 y0) (trodAll_cons_mk (shut_bool Tryz.underlying4 _) (trodAll_cons_mk (Below.trod laidOut (by kernel_rfl) (of_decide_eq_true (by kernel_rfl)) k2 bel lt2) (trodAll_cons_mk (Below.trod laidOut (by kernel_rfl) (of_decide_eq_true (by kernel_rfl)) k3 bel lt3) trodAll_mk0)))), rfl, bel.frame _, fun h => by cases h⟩

theorem said : Rows.NumberParseSaid :=
  OpenClaim.holds_of_cond 3 Tryz.f3 rfl rfl rfl rfl rfl rfl rfl ⟨rfl, rfl, rfl, rfl, rfl⟩ rfl rfl rfl rfl rfl (by kernel_rfl) Tryz.func3 (by kernel_rfl)
    (of_decide_eq_true (by kernel_rfl)) (by unfold Func.isWrapper; first | (rw [if_pos (by decide +kernel)]; kernel_rfl) | (rw [if_neg (by decide +kernel)]; exact ⟨rfl, rfl⟩))
    (fun os started H enc _ F => by rw [OpenClaim.pre_eq_preRow]; exact lifted os started H enc F)

/-- No parameter wants a stand-in; the program's own looks are on. -/
theorem plain (f : FuncId) (fn : Func) (hf : Tryz.pinned.checked.prog.funcNamed "chcsolver/chcsolverlaw01.NumberParse" = some f) (hfn : Tryz.pinned.checked.prog.funcs[f]? = some fn) :
    true = Tryz.pinned.checked.prog.looks [] ∧ ∀ (j : Nat) t, fn.params[j]? = some t → Tryz.pinned.checked.prog.wantsStandIn t = false := by
  obtain rfl : f = 3 := Option.some.inj ((show Tryz.prog.funcNamed "chcsolver/chcsolverlaw01.NumberParse" = some 3 by kernel_rfl).symm.trans hf) |>.symm
  obtain rfl : fn = Tryz.f3 := (Option.some.inj (Tryz.func3.symm.trans hfn)).symm
  refine ⟨by kernel_rfl, fun j t ht => ?_⟩
  rw [Tryz.params3] at ht
  have hm : t ∈ [9, 4, 22, 22] := by simpa using Array.mem_of_getElem? ht
  simp only [List.mem_cons, List.mem_nil_iff, or_false] at hm
  rcases hm with rfl | rfl | rfl | rfl
  · exact (show Tryz.prog.wantsStandIn 9 = false by kernel_rfl)
  · exact (show Tryz.prog.wantsStandIn 4 = false by kernel_rfl)
  · exact (show Tryz.prog.wantsStandIn 22 = false by kernel_rfl)
  · exact (show Tryz.prog.wantsStandIn 22 = false by kernel_rfl)
end Go.Proofs.YtollagkikaapjaaGreatDoor.numberParse
namespace Go.Proofs.YtollagkikaapjaaGreatDoor
/-- THE CARD of NumberParse. -/
theorem numberParse_holds : Rows.NumberParseCardSaid :=
  Claim7.holds_tied_plain_at .later [] _ _ _ _ numberParse.said (fun _ h => by cases h) (by kernel_rfl) (fun _ h => by cases h) numberParse_row_tie rfl ⟨rfl, rfl⟩ (by kernel_rfl) rfl numberParse.plain (by kernel_rfl)
end Go.Proofs.YtollagkikaapjaaGreatDoor
end
