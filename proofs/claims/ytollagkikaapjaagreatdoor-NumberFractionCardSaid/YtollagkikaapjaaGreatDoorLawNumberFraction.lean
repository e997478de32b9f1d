/- The law holds for every input: its pure part, its row and its card. No condition beyond what each statement says. -/
import Derived.Test.YtollagkikaapjaaGreatDoorR1
import Derived.Test.YtollagkikaapjaaGreatDoorM3
set_option linter.unusedSimpArgs false
set_option linter.unusedVariables false
section
set_option linter.unusedSimpArgs false
set_option linter.unusedVariables false
namespace Go.AM.Num
theorem D_num (q : Rat) : D ((q.num : Int) : Rat) ≤ D q + 1 := by rw [D_int]; unfold D; omega
theorem D_den (q : Rat) : D (((q.den : Nat) : Int) : Rat) ≤ D q + 1 := by rw [D_int]; unfold D; simp
theorem P_NumberFraction (a : List UInt8) (ha : SL a) (l : List Int) (hl : IL l) : l_NumberFraction a l = some ((true, ()), ()) := by
  obtain ⟨p, e1, d1⟩ := pick_eq a l
  have a1 := D_num p
  have a2 := D_den p
  have hd : ((p.den : Int) : Rat) ≠ 0 := fun e => by
    have := congrArg Rat.num e; rw [Rat.num_intCast] at this
    have h0 := p.den_nz
    have h1 : ((p.den : Nat) : Int) = 0 := this
    omega
  unfold l_NumberFraction
  simp (disch := first | omega | exact hd) only [e1, bind_some', Num_t, Den_t, IsInt_t, Sign_t, Gcd_t, Div_t, t1, awake_eq, Rat.den_intCast, Rat.num_intCast]
  simp only [txt_beqI]
  simp only [txt_beq]
  have f1 : ((p.den : Nat) : Int).sign > 0 := by rw [Int.sign_eq_one_of_pos (by have := p.den_pos; omega)]; decide
  have f2 : ((Nat.gcd p.num.natAbs ((p.den : Nat) : Int).natAbs : Nat) : Int) = 1 := by
    have := p.reduced
    rw [Int.natAbs_natCast]
    exact_mod_cast this
  have f3 : (p.num : Rat) / ((p.den : Int) : Rat) = p := by
    have := Rat.num_divInt_den p
    rw [Rat.divInt_eq_div] at this
    exact this
  have f4 : decide (((p.den : Nat) : Int) = 1) = (p.den == 1) := by
    rw [show (p.den == 1) = decide (p.den = 1) from rfl]; exact decide_eq_decide.2 ⟨fun h => by omega, fun h => by omega⟩
  simp only [beq_self_eq_true, cond_t]
  rw [cond_dt f1, cond_dt f2, cond_dt f3, f4]
  simp only [beq_self_eq_true, cond_t]
end Go.AM.Num
end
section
set_option linter.unusedVariables false
namespace Go.Proofs.YtollagkikaapjaaGreatDoor.numberFraction
open Go.ChangeShapes Go.WideShapes Go.ChangeAt Go.RowKit Go.AM Go.AM.Num
open Go.ChangeMaps (open_string shut_string)
theorem reads (os : Os) {H : Type} (enc : TypeId × Value → H) : ∃ places, DataW.whole enc Tryz.prog ((laidWorld os).forCall (fun _ _ => 0) ⟨#[], #[.string ByteArray.empty, .slice none 0 0], []⟩).memory Tryz.f8.params.toList Rows.numberFractionSpec.vars false (#[.string ByteArray.empty, .slice none 0 0] : Array Value).toList 8 = some ([.lit (.string []), .nil], [], places) :=
  ⟨[], by kernel_rfl⟩
set_option maxRecDepth 100000 in
theorem lifted (os : Os) (started : os.Started) (H : Type) (enc : TypeId × Value → H) (F : Stop.Interp) :
    ReturnsInHanded {} Tryz.checked os 8 .any ((OpenSpec.ofChange Rows.numberFractionSpec).preRow enc Tryz.prog Tryz.f8 Rows.numberFractionRow.domain false Rows.numberFractionRow.laid) (((OpenSpec.ofChange Rows.numberFractionSpec).at F).post enc Tryz.prog Tryz.f8 false true false false) := by
  obtain ⟨places, hx⟩ := reads os enc
  refine returnsInHanded_of_row (C := Tryz.checked) (s := OpenSpec.ofChange Rows.numberFractionSpec) Num.own started (by kernel_rfl) Tryz.func8
    (witness_row_atRef (enc := enc) (C := Tryz.checked) false (laidWorld os) #[.string ByteArray.empty, .slice none 0 0] rfl (laid_var os _) (laid_drop os _) (by kernel_rfl)
      (OpenSpec.preRow_of_cond 8 hx (by kernel_rfl) (fun k hk => by cases hk) (by kernel_rfl) (laid_met os _))) ?_
  intro W base args ds gs before hval0 hW _ _ _ hL hsh _
  have hval : ∀ (j : Nat) t v, Tryz.f8.params[j]? = some t → args[j]? = some v → Value.okWide Tryz.prog W .any base t v := hval0
  have hW' := hW
  obtain ⟨p, q, hA0, hV, rfl, hfz, hnd⟩ := hW
  have hA : DataW.TrodAll enc Tryz.prog W 0 (fun _ => true) true Tryz.f8.params.toList args.toList ds p := hA0
  rw [Tryz.params8] at hA hval
  obtain ⟨v0, vs0, d0, ds0, p0, q0, hargs, rfl, rfl, h0, r0⟩ := trodAll_cons hA
  obtain ⟨v1, vs1, d1, ds1, p1, q1, rfl, rfl, rfl, h1, r1⟩ := trodAll_cons r0
  obtain ⟨rfl, rfl, rfl⟩ := trodAll_nil r1
  obtain rfl : args = #[v0, v1] := by cases args; simp_all
  obtain ⟨rfl, rfl⟩ := trodVars_none hV
  obtain ⟨a0, rfl, rfl, rfl, y0⟩ := open_string Tryz.underlying9 (hval 0 9 v0 rfl rfl) h0
  obtain ⟨a1, len1, cap1, rfl⟩ := okWide_slice Tryz.underlying22 (hval 1 22 v1 rfl rfl)
  have k1 := h1
  have lt1 : ∀ x ∈ p1, x.block < W.heap.size := by obtain ⟨m, hm⟩ := k1; exact DataW.trod_lt m _ _ _ hm
  obtain ⟨l1, rfl, hm1, hw1, tv1⟩ := ints_tv Tryz.underlying22 Tryz.underlying3 (by kernel_rfl) h1
  clear hA0 hval0
  have hp := P_NumberFraction a0.data.toList (sl_of y0) l1 (il_of hm1 hw1)
  refine (law_calls G_l_NumberFraction (fun _ => rfl) (a0.data.toList, l1, ()) ((true, ()) : tysR [.val .bool]) () hp (fun _ _ _ _ _ h => res_true h) W (gn_of hL hsh) #[.string a0, .slice a1 l1.length cap1] ⟨_, _, rfl, str_tv' _, ⟨_, _, rfl, tv1, rfl⟩⟩).mono fun e W' ⟨he, bel⟩ => ?_
  subst he
  exact ⟨_, rfl, _, _, _, [], _, [], hW', trodAll_mk1 (shut_bool Tryz.underlying4 _), (trodAll_cons_mk (shut_string Tryz.underlying9 y0) (trodAll_cons_mk (Below.trod laidOut (by kernel_rfl) (of_decide_eq_true (by kernel_rfl)) k1 bel lt1) trodAll_mk0)), rfl, bel.frame _, fun h => by cases h⟩

theorem said : Rows.NumberFractionSaid :=
  OpenClaim.holds_of_cond 8 Tryz.f8 rfl rfl rfl rfl rfl rfl rfl ⟨rfl, rfl, rfl, rfl, rfl⟩ rfl rfl rfl rfl rfl (by kernel_rfl) Tryz.func8 (by kernel_rfl)
    (of_decide_eq_true (by kernel_rfl)) (by unfold Func.isWrapper; first | (rw [if_pos (by decide +kernel)]; kernel_rfl) | (rw [if_neg (by decide +kernel)]; exact ⟨rfl, rfl⟩))
    (fun os started H enc _ F => by rw [OpenClaim.pre_eq_preRow]; exact lifted os started H enc F)

/-- No parameter wants a stand-in; the program's own looks are on. -/
theorem plain (f : FuncId) (fn : Func) (hf : Tryz.pinned.checked.prog.funcNamed "chcsolver/chcsolverlaw01.NumberFraction" = some f) (hfn : Tryz.pinned.checked.prog.funcs[f]? = some fn) :
    true = Tryz.pinned.checked.prog.looks [] ∧ ∀ (j : Nat) t, fn.params[j]? = some t → Tryz.pinned.checked.prog.wantsStandIn t = false := by
  obtain rfl : f = 8 := Option.some.inj ((show Tryz.prog.funcNamed "chcsolver/chcsolverlaw01.NumberFraction" = some 8 by kernel_rfl).symm.trans hf) |>.symm
  obtain rfl : fn = Tryz.f8 := (Option.some.inj (Tryz.func8.symm.trans hfn)).symm
  refine ⟨by kernel_rfl, fun j t ht => ?_⟩
  rw [Tryz.params8] at ht
  have hm : t ∈ [9, 22] := by simpa using Array.mem_of_getElem? ht
  simp only [List.mem_cons, List.mem_nil_iff, or_false] at hm
  rcases hm with rfl | rfl
  · exact (show Tryz.prog.wantsStandIn 9 = false by kernel_rfl)
  · exact (show Tryz.prog.wantsStandIn 22 = false by kernel_rfl)
end Go.Proofs.YtollagkikaapjaaGreatDoor.numberFraction
namespace Go.Proofs.YtollagkikaapjaaGreatDoor
/-- THE CARD of NumberFraction. -/
theorem numberFraction_holds : Rows.NumberFractionCardSaid :=
  Claim7.holds_tied_plain_at .later [] _ _ _ _ numberFraction.said (fun _ h => by cases h) (by kernel_rfl) (fun _ h => by cases h) numberFraction_row_tie rfl ⟨rfl, rfl⟩ (by kernel_rfl) rfl numberFraction.plain (by kernel_rfl)
end Go.Proofs.YtollagkikaapjaaGreatDoor
end
