/- What the functions of the program compute, as functions of plain data, with the proofs that the program computes just that. No condition beyond what each statement says. -/
import Derived.Test.YtollagkikaapjaaGreatDoorA3
import Derived.Test.YtollagkikaapjaaGreatDoorN2
import Derived.Test.YtollagkikaapjaaGreatDoorShelf
import Derived.Shelf.Strings.SlTrimAscii
import Derived.Test.YtollagkikaapjaaGreatDoorProg
import Derived.Lib.ItoaMem
import Derived.Lib.Walk
import Derived.WalkKit
import Derived.BigCall
import Derived.BigGuard
import Derived.RangeFuncBox
import Derived.RangeFuncLeaves
import Derived.RangeFuncWrites
import Derived.Shelf.Abstract
import Derived.OwnWalkIn
import Derived.TacticsInMore
import Derived.LoopNIn
import Derived.LoopIn
import Derived.RangeFuncNested
set_option linter.unusedSimpArgs false
set_option linter.unusedVariables false
section
namespace Go.AM.Num
open Go.Proofs

/-- What the laid tables say, as far as these functions ask. -/
structure GN (w : World) : Prop where
  maxLen : ∃ m, w.cell? ⟨0, 0, none⟩ = some (.int .i64 m)
  errS : ∃ ev, w.cell? ⟨1, 0, none⟩ = some ev ∧ (ev = .nilIface ∨ ∃ te pe, ev = .iface te pe)
  errR : ∃ ev, w.cell? ⟨2, 0, none⟩ = some ev ∧ (ev = .nilIface ∨ ∃ te pe, ev = .iface te pe)
  pow10 : Lib.TabIs Tryz.prog w "internal/strconv.uint64pow10" .u64 Lib.pow10Tab

theorem tv_str {rd : Nat → Nat → Option Value} {I : Nat → Prop} {x : List UInt8} {v : Value} (h : TV rd I .str x v) : ∃ s : ByteArray, v = .string s ∧ s.data.toList = x := by
  simp only [TV, GT.isAgg, RelC] at h
  obtain ⟨b, h1, h2⟩ := h
  exact ⟨b, by simpa using h1, h2⟩
theorem tv_int {rd : Nat → Nat → Option Value} {I : Nat → Prop} {k : IntKind} {x : Int} {v : Value} (h : TV rd I (.int k) x v) : v = .int k x := by
  simp only [TV, GT.isAgg, RelC] at h
  simpa using h
theorem str_tv {rd : Nat → Nat → Option Value} {I : Nat → Prop} (l : List UInt8) : TV rd I .str l (.string ⟨l.toArray⟩) := by
  simp only [TV, GT.isAgg, RelC]
  exact ⟨_, rfl, by simp⟩
theorem bool_tv {rd : Nat → Nat → Option Value} {I : Nat → Prop} (b : Bool) : TV rd I .bool b (.bool b) := by
  simp [TV, GT.isAgg, RelC]
theorem args1 {rd : Nat → Nat → Option Value} {I : Nat → Prop} {β : Nat → Option Place} {t : GT} {x : tysP [.val t]} {vs : Array Value} (h : argsRel rd I β [.val t] x vs.toList 0) : ∃ v, vs = #[v] ∧ TV rd I t x.1 v := by
  simp only [argsRel] at h
  obtain ⟨v, vs', h1, h2, rfl⟩ := h
  exact ⟨v, by apply Array.ext'; simpa using h1, h2⟩
theorem args2 {rd : Nat → Nat → Option Value} {I : Nat → Prop} {β : Nat → Option Place} {t u : GT} {x : tysP [.val t, .val u]} {vs : Array Value} (h : argsRel rd I β [.val t, .val u] x vs.toList 0) : ∃ v v', vs = #[v, v'] ∧ TV rd I t x.1 v ∧ TV rd I u x.2.1 v' := by
  simp only [argsRel] at h
  obtain ⟨v, vs', h1, h2, v', vs2, rfl, h3, rfl⟩ := h
  exact ⟨v, v', by apply Array.ext'; simpa using h1, h2, h3⟩


theorem ext_drewN (w : World) (n : Nat) : Ext w (w.drewN n) := ⟨rfl, rfl, rfl, Nat.le_refl _, fun _ _ => rfl⟩

theorem strings_CutPrefix_good {V : Env} (hP : V.P = Tryz.prog) : Good V 50 strings_CutPrefix_C :=
  good_ext ⟨_, hP ▸ Tryz.func50, by decide, by rfl⟩ (fun _ => rfl) (fun _ => rfl) (fun x y o hx w I β vs hG ha => by
    obtain ⟨v, v', rfl, h1, h2⟩ := args2 ha
    obtain ⟨s, rfl, hs⟩ := tv_str h1
    obtain ⟨p, rfl, hp⟩ := tv_str h2
    rw [hP]
    refine Calls.mono (Tryz.strings_CutPrefix s p w) ?_
    rintro e w' ⟨rfl, rfl⟩
    refine ⟨_, rfl, Ext.refl _, fun rd I' β' => ⟨[_, _], rfl, ?_⟩⟩
    simp only [strings_CutPrefix_C, strings_CutPrefix, Option.some.injEq] at hx
    obtain ⟨rfl, _⟩ := hx
    simp only [strings_CutPrefix_C, resOK]
    exact ⟨_, _, rfl, by rw [hs, hp]; exact str_tv _, _, _, rfl, by rw [hs, hp]; exact bool_tv _, trivial, rfl⟩) (fun _ => rfl)

theorem strings_Cut_good {V : Env} (hP : V.P = Tryz.prog) (hV : ∀ w, V.G w → GN w) : Good V 51 strings_Cut_C :=
  good_ext ⟨_, hP ▸ Tryz.func51, by decide, by rfl⟩ (fun _ => rfl) (fun _ => rfl) (fun x y o hx w I β vs hG ha => by
    obtain ⟨v, v', rfl, h1, h2⟩ := args2 ha
    obtain ⟨s, rfl, hs⟩ := tv_str h1
    obtain ⟨p, rfl, hp⟩ := tv_str h2
    simp only [strings_Cut_C, strings_Cut] at hx
    split at hx
    case isFalse => cases hx
    rename_i hlen
    simp only [Option.some.injEq] at hx
    obtain ⟨rfl, _⟩ := hx
    obtain ⟨m, hm⟩ := (hV w hG).maxLen
    rw [hP]
    refine Calls.mono (Tryz.strings_Cut s p m w (by rw [size_data, hs]; exact hlen) hm) ?_
    rintro e w' ⟨rfl, n, rfl⟩
    refine ⟨_, rfl, ext_drewN w n, fun rd I' β' => ⟨[_, _, _], rfl, ?_⟩⟩
    simp only [strings_Cut_C, resOK]
    exact ⟨_, _, rfl, by rw [hs, hp]; exact str_tv _, _, _, rfl, by rw [hs, hp]; exact str_tv _, _, _, rfl, by rw [hs, hp]; exact bool_tv _, trivial, rfl⟩) (fun _ => rfl)


theorem ext_grow (w : World) (k : Nat) (os : Array Obj) : Ext w (Sort.grow (w.drewN k) os) := by
  refine ⟨rfl, rfl, rfl, ?_, fun B hB => ?_⟩
  · show w.heap.size ≤ (w.heap ++ os).size
    simp
  · show (w.heap ++ os)[B]? = w.heap[B]?
    rw [Array.getElem?_append_left hB]

theorem ext_bytes (w : World) (t : ByteArray) : Ext w (Lib.bytesWorld w 5 t) := ⟨rfl, rfl, rfl, by rw [Lib.bytesWorld_size]; omega, fun B hB => Lib.bytesWorld_at_old w 5 t B hB⟩

theorem strings_Repeat_good {V : Env} (hP : V.P = Tryz.prog) : Good V 54 strings_Repeat_C :=
  good_ext ⟨_, hP ▸ Tryz.func54, by decide, by rfl⟩ (fun _ => rfl) (fun _ => rfl) (fun x y o hx w I β vs hG ha => by
    obtain ⟨v, v', rfl, h1, h2⟩ := args2 ha
    obtain ⟨s, rfl, hs⟩ := tv_str h1
    have := tv_int h2
    subst this
    simp only [strings_Repeat_C, strings_Repeat] at hx
    split at hx
    case isFalse => cases hx
    rename_i hc
    simp only [Option.some.injEq] at hx
    obtain ⟨rfl, _⟩ := hx
    rw [hP]
    have hn : (x.2.1.toNat : Int) = x.2.1 := Int.toNat_of_nonneg hc.1
    have hcall := Tryz.strings_Repeat s x.2.1.toNat w (by have := hc.2.1; omega) (by rw [size_data, hs]; exact hc.2.2)
    rw [hn] at hcall
    refine Calls.mono hcall ?_
    rintro e w' ⟨rfl, hb⟩
    refine ⟨_, rfl, Ext.of_below hb, fun rd I' β' => ⟨[_], rfl, ?_⟩⟩
    simp only [strings_Repeat_C, resOK]
    exact ⟨_, _, rfl, by rw [hs]; exact str_tv _, trivial, rfl⟩) (fun _ => rfl)

theorem strconv_Itoa_good {V : Env} (hP : V.P = Tryz.prog) (hV : ∀ w, V.G w → GN w) : Good V 90 strconv_Itoa_C :=
  good_ext ⟨_, hP ▸ Tryz.func90, by decide, by rfl⟩ (fun _ => rfl) (fun _ => rfl) (fun x y o hx w I β vs hG ha => by
    obtain ⟨v, rfl, h1⟩ := args1 ha
    have := tv_int h1
    subst this
    simp only [strconv_Itoa_C, strconv_Itoa] at hx
    split at hx
    case isFalse => cases hx
    rename_i hc
    simp only [Option.some.injEq] at hx
    obtain ⟨rfl, _⟩ := hx
    rw [hP]
    refine Calls.mono (Tryz.strconv_Itoa x.1 hc.1 hc.2 w (hV w hG).pow10) ?_
    rintro e w' ⟨rfl, k, os, rfl⟩
    refine ⟨_, rfl, ext_grow w k os, fun rd I' β' => ⟨[_], rfl, ?_⟩⟩
    simp only [strconv_Itoa_C, resOK]
    exact ⟨_, _, rfl, str_tv _, trivial, rfl⟩) (fun _ => rfl)

theorem strconv_FormatInt_good {V : Env} (hP : V.P = Tryz.prog) (hV : ∀ w, V.G w → GN w) : Good V 109 strconv_FormatInt_C :=
  good_ext ⟨_, hP ▸ Tryz.func109, by decide, by rfl⟩ (fun _ => rfl) (fun _ => rfl) (fun x y o hx w I β vs hG ha => by
    obtain ⟨v, v', rfl, h1, h2⟩ := args2 ha
    have := tv_int h1
    subst this
    have := tv_int h2
    subst this
    simp only [strconv_FormatInt_C, strconv_FormatInt] at hx
    split at hx
    case isFalse => cases hx
    rename_i hc
    simp only [Option.some.injEq] at hx
    obtain ⟨rfl, _⟩ := hx
    rw [hP, hc.2]
    refine Calls.mono (Tryz.strconv_FormatInt_10 x.1 hc.1.1 hc.1.2 w (hV w hG).pow10) ?_
    rintro e w' ⟨rfl, k, os, rfl⟩
    refine ⟨_, rfl, ext_grow w k os, fun rd I' β' => ⟨[_], rfl, ?_⟩⟩
    simp only [strconv_FormatInt_C, resOK]
    exact ⟨_, _, rfl, str_tv _, trivial, rfl⟩) (fun _ => rfl)


theorem strings_Trim_good {V : Env} (hP : V.P = Tryz.prog) : Good V 95 strings_Trim_C :=
  good_ext ⟨_, hP ▸ Tryz.func95, by decide, by rfl⟩ (fun _ => rfl) (fun _ => rfl) (fun x y o hx w I β vs hG ha => by
    obtain ⟨v, v', rfl, h1, h2⟩ := args2 ha
    obtain ⟨s, rfl, hs⟩ := tv_str h1
    obtain ⟨p, rfl, hp⟩ := tv_str h2
    simp only [strings_Trim_C, strings_Trim] at hx
    split at hx
    case isFalse => cases hx
    rename_i hc
    simp only [Option.some.injEq] at hx
    obtain ⟨rfl, _⟩ := hx
    rw [hP]
    have hcall := Any.strings_Trim_laid Tryz.lays160 (by kernel_rfl) s p w (by rw [size_data, hs]; exact hc.1) (by rw [size_data, hp]; exact hc.2.1) (ascii_of_all (by rw [hp]; exact hc.2.2))
    refine Calls.mono hcall ?_
    rintro e w' ⟨rfl, hb⟩
    refine ⟨_, rfl, Ext.of_below hb, fun rd I' β' => ⟨[_], rfl, ?_⟩⟩
    simp only [strings_Trim_C, resOK]
    exact ⟨_, _, rfl, by rw [hs, hp]; exact str_tv _, trivial, rfl⟩) (fun _ => rfl)

theorem int_tv {rd : Nat → Nat → Option Value} {I : Nat → Prop} (k : IntKind) (n : Int) : TV rd I (.int k) n (.int k n) := by
  simp [TV, GT.isAgg, RelC]
theorem nil_tv {rd : Nat → Nat → Option Value} {I : Nat → Prop} : TV rd I .err false .nilIface := by
  simp [TV, GT.isAgg, RelC]
theorem args3 {rd : Nat → Nat → Option Value} {I : Nat → Prop} {β : Nat → Option Place} {t u r : GT} {x : tysP [.val t, .val u, .val r]} {vs : Array Value} (h : argsRel rd I β [.val t, .val u, .val r] x vs.toList 0) : ∃ v v' v2, vs = #[v, v', v2] ∧ TV rd I t x.1 v ∧ TV rd I u x.2.1 v' ∧ TV rd I r x.2.2.1 v2 := by
  simp only [argsRel] at h
  obtain ⟨v, vs', h1, h2, v', vs2, rfl, h3, v2, vs3, rfl, h4, rfl⟩ := h
  exact ⟨v, v', v2, by apply Array.ext'; simpa using h1, h2, h3, h4⟩

theorem strconv_ParseInt_good {V : Env} (hP : V.P = Tryz.prog) : Good V 128 strconv_ParseInt_C :=
  good_ext ⟨_, hP ▸ Tryz.func128, by decide, by rfl⟩ (fun _ => rfl) (fun _ => rfl) (fun x y o hx w I β vs hG ha => by
    obtain ⟨v, v', v2, rfl, h1, h2, h3⟩ := args3 ha
    obtain ⟨s, rfl, hs⟩ := tv_str h1
    have := tv_int h2
    subst this
    have := tv_int h3
    subst this
    simp only [strconv_ParseInt_C, strconv_ParseInt] at hx
    split at hx
    case isFalse => cases hx
    rename_i hc
    split at hx
    case h_2 => cases hx
    rename_i n hn
    simp only [Option.some.injEq] at hx
    obtain ⟨rfl, _⟩ := hx
    rw [hP, hc.1, hc.2.1]
    refine Calls.mono (Tryz.strconv_ParseInt_10_at64_ok s (by rw [size_data, hs]; have := hc.2.2; omega) n (by rw [hs]; exact hn) w) ?_
    rintro e w' ⟨rfl, hw⟩
    have hext : Ext w w' := by
      rcases hw with rfl | ⟨t, rfl⟩
      · exact Ext.refl _
      · exact ext_bytes w t
    refine ⟨_, rfl, hext, fun rd I' β' => ⟨[_, _], rfl, ?_⟩⟩
    simp only [strconv_ParseInt_C, resOK]
    exact ⟨_, _, rfl, int_tv _ _, _, _, rfl, nil_tv, trivial, rfl⟩) (fun _ => rfl)

theorem err_tv {rd : Nat → Nat → Option Value} {I : Nat → Prop} {t : TypeId} {v : Value} : TV rd I .err true (.iface t v) := by
  simp [TV, GT.isAgg, RelC]

theorem strconv_Atoi_good {V : Env} (hP : V.P = Tryz.prog) (hV : ∀ w, V.G w → GN w) : Good V 91 strconv_Atoi_C :=
  good_ext ⟨_, hP ▸ Tryz.func91, by decide, by rfl⟩ (fun _ => rfl) (fun _ => rfl) (fun x y o hx w I β vs hG ha => by
    obtain ⟨v, rfl, h1⟩ := args1 ha
    obtain ⟨s, rfl, hs⟩ := tv_str h1
    simp only [strconv_Atoi_C, strconv_Atoi] at hx
    split at hx
    case isFalse => cases hx
    rename_i hc
    have hl : s.size ≤ 281474976710656 := by rw [size_data, hs]; exact hc
    rw [hP]
    split at hx
    · rename_i n hn
      simp only [Option.some.injEq] at hx
      obtain ⟨rfl, _⟩ := hx
      refine Calls.mono (Tryz.strconv_Atoi_ok s (by omega) n (by rw [hs]; exact hn) w) ?_
      rintro e w' ⟨rfl, hw⟩
      have hext : Ext w w' := by
        rcases hw with rfl | ⟨t, rfl⟩
        · exact Ext.refl _
        · exact ext_bytes w t
      refine ⟨_, rfl, hext, fun rd I' β' => ⟨[_, _], rfl, ?_⟩⟩
      simp only [strconv_Atoi_C, resOK]
      exact ⟨_, _, rfl, int_tv _ _, _, _, rfl, nil_tv, trivial, rfl⟩
    · rename_i hn
      simp only [Option.some.injEq] at hx
      obtain ⟨rfl, _⟩ := hx
      obtain ⟨ev, h2, h3⟩ := (hV w hG).errS
      refine Calls.mono (Tryz.strconv_Atoi_syntax s hl (by rw [hs]; exact hn) ev w h2 h3) ?_
      rintro e w' ⟨N, rfl, _, _, hb⟩
      refine ⟨_, rfl, Ext.of_below hb, fun rd I' β' => ⟨[_, _], rfl, ?_⟩⟩
      simp only [strconv_Atoi_C, resOK]
      exact ⟨_, _, rfl, int_tv _ _, _, _, rfl, err_tv, trivial, rfl⟩
    · rename_i hn
      simp only [Option.some.injEq] at hx
      obtain ⟨rfl, _⟩ := hx
      obtain ⟨ev, h2, h3⟩ := (hV w hG).errR
      refine Calls.mono (Tryz.strconv_Atoi_range s hl (by rw [hs]; exact hn) ev w h2 h3) ?_
      rintro e w' ⟨N, rfl, _, _, hb⟩
      refine ⟨_, rfl, Ext.of_below hb, fun rd I' β' => ⟨[_, _], rfl, ?_⟩⟩
      simp only [strconv_Atoi_C, resOK]
      exact ⟨_, _, rfl, by rw [← hs]; exact int_tv _ _, _, _, rfl, err_tv, trivial, rfl⟩) (fun _ => rfl)
end Go.AM.Num
end
section
namespace Go.Proofs
open Go.Shelf Go.RowKit Go.Sort Go.Lib

theorem holds_zero0 (w : World) (T : TypeId) (nd : Nat) (hs : nd ≤ 24) : Holds (fun (b : UInt8) => Value.int .u8 (b.toNat : Int)) (w.alloc (.cells zeros24 T)) w.heap.size 0 (Array.replicate nd (0 : UInt8)) := fun j hj => by
  have hj' : j < nd := by simpa using hj
  refine ⟨?_, World.frozen?_alloc_new _ _ _ _⟩
  rw [World.cell?_alloc_new, zeros24_at _ (by omega), getElem!_pos _ j hj]
  simp

set_option maxHeartbeats 6400000 in
set_option maxRecDepth 100000 in
theorem Tryz.internal_strconv_FormatUint_10 (u : Nat) (hu64 : u < 18446744073709551616) (w : World) (htab : Lib.TabIs Tryz.prog w "internal/strconv.uint64pow10" .u64 Lib.pow10Tab) :
    Calls Tryz.prog 146 #[.int .u64 u, .int .i64 10] w fun e w' => e = .returned (.string ⟨(Lib.decDigits u).toArray⟩) ∧ ∃ k os, w' = grow (w.drewN k) os := by
  by_cases hs : u < 100
  · go_enter Tryz.func146, Tryz.ntmps146
    go_wp2_with (go_at_call 166; refine (Tryz.internal_strconv_small u hs _).mono ?_; rintro e w' ⟨rfl, rfl⟩)
    go_ret
    exact ⟨rfl, 0, #[], by simp [World.drewN_zero]⟩
  · have hu1 : 1 ≤ u := by omega
    have hnd20 : Lib.nDigits u ≤ 20 := by have := Lib.numDigits_eq u hu1 hu64; split at this <;> omega
    have hsl1 : ∀ W, (Instr.sliceAt 143 (.pointer (some ⟨w.heap.size, 0, none⟩)) none (some (.int .i64 (Lib.nDigits u : Int))) none).run Tryz.prog W = .ok (.slice (some ⟨w.heap.size, 0, none⟩) (Lib.nDigits u) 24) W := fun W => by
      have hal : Tryz.prog.arrayLen 143 = 24 := by kernel_rfl
      rw [run_sliceAt_array_h W 143 ⟨w.heap.size, 0, none⟩ Tryz.underlying143 .i64 (Lib.nDigits u : Int) (by omega) (by rw [hal]; omega)]
      rw [hal]
      go_simp
    have hH0 := holds_zero0 w 143 (Lib.nDigits u) (by omega)
    have hfmt := Tryz.internal_strconv_formatBase10 w.heap.size 0 24 u (Array.replicate (Lib.nDigits u) 0) (w.alloc (.cells Lib.zeros24 143)) hH0 (by rw [Array.size_replicate]; exact Lib.lt_pow_nDigits u) hu64 (by rw [Array.size_replicate]; omega)
    rw [Array.size_replicate] at hfmt
    have HH0 := Lib.hid hH0
    clear hH0
    go_enter Tryz.func146, Tryz.ntmps146
    go_wp2_with (first
      | (go_at_call 167; refine (Tryz.internal_strconv_numDigits u hu1 hu64 _ (Lib.tabIs_alloc htab _)).mono ?_; rintro e w' ⟨rfl, rfl⟩))
    go_at_call 168
    refine hfmt.mono ?_
    rintro e w' ⟨rfl, k, v', dk, rfl, hF⟩
    have hcv : (convert 49 9 (.slice (some ⟨w.heap.size, 0, none⟩) (Lib.nDigits u) 24)).run Tryz.prog ((putRow (fun (b : UInt8) => Value.int .u8 (b.toNat : Int)) (w.alloc (.cells Lib.zeros24 143)) w.heap.size 0 dk).drewN k) = .ok (.string ⟨(Lib.decDigits u).toArray⟩) ((putRow (fun (b : UInt8) => Value.int .u8 (b.toNat : Int)) (w.alloc (.cells Lib.zeros24 143)) w.heap.size 0 dk).drewN k) := by
      have h := run_convert_bytes_back (P := Tryz.prog) ((putRow (fun (b : UInt8) => Value.int .u8 (b.toNat : Int)) (w.alloc (.cells Lib.zeros24 143)) w.heap.size 0 dk).drewN k) 49 9 5 ⟨w.heap.size, 0, none⟩ 24 (Lib.decDigits u) Tryz.underlying49 Tryz.underlying5 Tryz.underlying9 (fun j hj => by
        rw [Lib.row_is_numeral hF j hj, Lib.add_plain, World.cell?_drewN]
        exact cell?_putRow (fun (b : UInt8) => Value.int .u8 (b.toNat : Int)) _ w.heap.size 0 _ dk HH0.out (by rw [hF.size, Array.size_replicate]) j (by rw [hF.size]; rw [Lib.decDigits_length] at hj; exact hj))
      rw [Lib.decDigits_length] at h
      exact h
    go_wp2
    go_ret
    obtain ⟨os', _, e⟩ := putRow_grow_new (fun (b : UInt8) => Value.int .u8 (b.toNat : Int)) w #[.cells Lib.zeros24 143] w.heap.size 0 dk (Nat.le_refl _)
    refine ⟨rfl, k, os', ?_⟩
    rw [alloc_eq_grow, e]
    rfl

theorem Tryz.strconv_FormatUint_10 (u : Nat) (hu64 : u < 18446744073709551616) (w : World) (htab : Lib.TabIs Tryz.prog w "internal/strconv.uint64pow10" .u64 Lib.pow10Tab) :
    Calls Tryz.prog 119 #[.int .u64 u, .int .i64 10] w fun e w' => e = .returned (.string ⟨(Lib.decDigits u).toArray⟩) ∧ ∃ k os, w' = grow (w.drewN k) os := by
  go_enter Tryz.func119, Tryz.ntmps119
  go_wp2_with (go_at_call 146; refine (Tryz.internal_strconv_FormatUint_10 u hu64 _ htab).mono ?_; rintro e w' ⟨rfl, k, os, rfl⟩)
  go_ret
  exact ⟨rfl, k, os, rfl⟩
end Go.Proofs
namespace Go.AM.Num
open Go.Proofs
theorem strconv_FormatUint_good {V : Env} (hP : V.P = Tryz.prog) (hV : ∀ w, V.G w → GN w) : Good V 119 strconv_FormatUint_C :=
  good_ext ⟨_, hP ▸ Tryz.func119, by decide, by rfl⟩ (fun _ => rfl) (fun _ => rfl) (fun x y o hx w I β vs hG ha => by
    obtain ⟨v, v', rfl, h1, h2⟩ := args2 ha
    have := tv_int h1
    subst this
    have := tv_int h2
    subst this
    simp only [strconv_FormatUint_C, strconv_FormatUint] at hx
    split at hx
    case isFalse => cases hx
    rename_i hc
    simp only [Option.some.injEq] at hx
    obtain ⟨rfl, _⟩ := hx
    have hn : (x.1.toNat : Int) = x.1 := Int.toNat_of_nonneg hc.1
    have hcall := Tryz.strconv_FormatUint_10 x.1.toNat (by have := hc.2.1; omega) w (hV w hG).pow10
    rw [hn] at hcall
    rw [hP, hc.2.2]
    refine Calls.mono hcall ?_
    rintro e w' ⟨rfl, k, os, rfl⟩
    refine ⟨_, rfl, ext_grow w k os, fun rd I' β' => ⟨[_], rfl, ?_⟩⟩
    simp only [strconv_FormatUint_C, resOK]
    exact ⟨_, _, rfl, str_tv _, trivial, rfl⟩) (fun _ => rfl)
end Go.AM.Num
end
section
namespace Go.Proofs
open Go.Shelf Go.RowKit Go.Lib

theorem Tryz.Builder_WriteString_k (B b : Nat) (bs : List Value) (s : ByteArray) (w : World) (h : Lib.IsBuilderF 92 5 B b bs w) (hlen : bs.length + s.size ≤ 140737488355328) (hBw : B ≤ w.heap.size) :
    Calls Tryz.prog 100 #[.pointer (some ⟨b, 0, none⟩), .string s] w fun e w' => e = .returned (.tuple #[.int .i64 s.size, .nilIface]) ∧ (Lib.BuilderAtF 92 5 B b (.pointer (some ⟨b, 0, none⟩)) (bs ++ Lib.strCells s) w' ∧ Below B w w' ∧ Lib.OthersKept 5 (some b) w w') :=
  Any.Builder_WriteString_k { Tryz.lays105 with } Tryz.Builder_Extra_105 B b bs s w h hlen hBw

attribute [local go_sem] Oper.semAt_some

abbrev Limb := { x : Int // 0 ≤ x ∧ x < 1000000000 }
def encB (p : Nat × Limb) : Array Value := #[.int .i64 p.1, .int .u32 p.2.1]
/-- What has come when k rounds are over. -/
def backUpto (f : Nat → Nat × Limb) (k : Nat) : List (Nat × Limb) := (List.range k).map f
theorem backUpto_succ (f : Nat → Nat × Limb) (k : Nat) : backUpto f (k + 1) = backUpto f k ++ [f k] := by simp [backUpto, List.range_succ]
theorem backUpto_length (f : Nat → Nat × Limb) (k : Nat) : (backUpto f k).length = k := by simp [backUpto]

/-- What a round keeps: what lay below n₀, and the block of the slice's box. -/
def KeepsBox (n₀ Bs : Nat) (W W' : World) : Prop := Below n₀ W W' ∧ W'.heap[Bs]? = W.heap[Bs]?
theorem KeepsBox.refl (n₀ Bs : Nat) (W : World) : KeepsBox n₀ Bs W W := ⟨Below.refl _ _, rfl⟩
theorem KeepsBox.trans {n₀ Bs : Nat} {A B C : World} (h : KeepsBox n₀ Bs A B) (k : KeepsBox n₀ Bs B C) : KeepsBox n₀ Bs A C := ⟨h.1.trans k.1, k.2.trans h.2⟩
theorem KeepsBox.box {n₀ Bs : Nat} {A B : World} (h : KeepsBox n₀ Bs A B) : B.cell? ⟨Bs, 0, none⟩ = A.cell? ⟨Bs, 0, none⟩ := by simp [World.cell?, h.2]

set_option maxRecDepth 100000 in
set_option maxHeartbeats 2000000 in
theorem Tryz.back1_in (F : Fence) (n : Nat) (h8 : F.fn 147) (hro : F.round = none) (hn : 1 ≤ n) (l Bs n₀ b off len cap : Nat) (f : Nat → Nat × Limb) (hf : ∀ k, k < len → (f k).1 = len - 1 - k) (hreach : len ≤ 140737488351232) (hb : b < n₀) (J Jx : List (Nat × Limb) → World → Prop)
    (hY : ∀ pre x W, J pre W → pre.length < len → YieldAt F (n - 1) Tryz.prog l (encB x) W fun e W' =>
      (e = .returned (.bool true) ∧ J (pre ++ [x]) W' ∧ KeepsBox n₀ Bs W W') ∨ (e = .returned (.bool false) ∧ Jx (pre ++ [x]) W'))
    (W : World) (hBs : W.cell? ⟨Bs, 0, none⟩ = some (.slice (some ⟨b, off, none⟩) len cap)) (hc : ∀ k, k < len → W.cell? ⟨b, off + (len - 1 - k), none⟩ = some (.int .u32 (f k).2.1)) (h0 : J [] W) :
    CallsIn F n Tryz.prog 147 #[.func (.yield l) #[] #[], .pointer (some ⟨Bs, 0, none⟩)] W fun e W' => (∃ v, e = .returned v) ∧
      ((∃ ys, ys = backUpto f len ∧ J ys W') ∨ (∃ pre, (∃ k, k ≤ len ∧ pre = backUpto f k) ∧ Jx pre W')) := by
  refine callsIn_of_wp Tryz.func147 rfl h8 ?_ hro
  simp only [Tryz.ntmps147, List.size_toArray, List.length_cons, List.length_nil, Nat.reduceAdd, Nat.reduceSub, Array.replicate_succ, Array.replicate_zero, List.push_toArray, List.append_toArray, List.nil_append, List.cons_append]
  gi_wp2
  gi_loopw [3] (fun i wr => ∃ k : Nat, k ≤ len ∧ i = .int .i64 ((len : Int) - 1 - k) ∧ J (backUpto f k) wr ∧ KeepsBox n₀ Bs W wr)
    (fun i _ => ((RowKit.intOf i) + 1).toNat)
  case atStart => exact ⟨0, Nat.zero_le _, by simp, h0, KeepsBox.refl _ _ _⟩
  case round =>
    obtain ⟨k, hk, rfl, hJs, hnx⟩ := hrel
    by_cases hlt : k < len
    · obtain ⟨fn, tmps, assign, body, hy, hR⟩ := hY _ (f k) wr hJs (by rw [backUpto_length]; exact hlt)
      dsimp only [encB] at hy
      rw [hf k hlt] at hy
      have hix : ((len - 1 - k : Nat) : Int) = (len : Int) - 1 - k := by omega
      rw [hix] at hy
      have hBx : wr.cell? ⟨Bs, 0, none⟩ = some (.slice (some ⟨b, off, none⟩) len cap) := hnx.box.trans hBs
      have hcx : wr.cell? ⟨b, off + (len - 1 - k), none⟩ = some (.int .u32 (f k).2.1) := (hnx.1.cell (p := ⟨b, off + (len - 1 - k), none⟩) hb).trans (hc k hlt)
      gi_wp2
      refine hR.mono ?_
      rintro e W3 (⟨rfl, hJ3, hk3⟩ | ⟨rfl, hJx3⟩)
      · gi_wp2
        go_roundw
        case rel => exact ⟨k + 1, by omega, by simp; omega, by rw [backUpto_succ]; exact hJ3, hnx.trans hk3⟩
        case measure => simp [RowKit.intOf]; omega
      · gi_wp2
        refine bodyPost_ret (results_none rfl _ _ _) rfl ?_
        exact ⟨⟨_, rfl⟩, .inr ⟨_, ⟨k + 1, by omega, (backUpto_succ _ _).symm⟩, hJx3⟩⟩
    · obtain rfl : k = len := by omega
      gi_wp2
      go_end0
      exact ⟨⟨_, rfl⟩, .inl ⟨_, rfl, hJs⟩⟩
end Go.Proofs
end
section
namespace Go.Proofs
open Go.Shelf Go.RowKit Go.Lib Go.AM.Num
attribute [local go_sem] Oper.semAt_some

theorem builderF_kept {T e : TypeId} {B b : Nat} {p : Value} {bs : List Value} {w w' : World} {row : Option Nat} (h : BuilderAtF T e B b p bs w) (hg : w.grownBy w' row) (hr : ∀ r, row = some r → ∃ o : Obj, w.heap[r]? = some o ∧ o.isCells = false) : BuilderAtF T e B b p bs w' := by
  obtain ⟨hB, v, hb, hown, hne⟩ := h
  refine ⟨hB, v, (hg.block b (Array.getElem?_eq_some_iff.1 hb).1 ?_).trans hb, hown.kept hg ?_, hne⟩
  · intro e'
    obtain ⟨o, ho, hc⟩ := hr b e'.symm
    rw [hb] at ho; cases ho; cases hc
  · cases hv : v.ownBlock with
    | none => exact .inl rfl
    | some g =>
      refine .inr fun e' => ?_
      obtain ⟨c, fz, hgg⟩ := ownsRowF_kind hown g hv
      obtain ⟨o, ho, hc⟩ := hr g e'.symm
      rw [hgg] at ho; cases ho; cases hc
theorem builderF_own (N B b : Nat) (bs : List (Nat × Limb) → List Value) : OwnFrom N (fun pre W => BuilderAtF 92 5 B b (.pointer (some ⟨b, 0, none⟩)) (bs pre) W) := fun _ _ _ _ hs hg hr =>
  builderF_kept hs hg fun r e => (hr r e).2

theorem below_of_grown {w w' : World} (h : w.grownBy w' none) : Below w.heap.size w w' := (Below.refl _ w).grown h (Nat.le_refl _) (fun k e => by cases e)

theorem Tryz.fmtU (u : Nat) (hu : u < 18446744073709551616) (w : World) (htab : Lib.TabIs Tryz.prog w "internal/strconv.uint64pow10" .u64 Lib.pow10Tab) :
    Calls Tryz.prog 119 #[.int .u64 u, .int .i64 10] w fun e w' => e = .returned (.string ⟨(Lib.decDigits u).toArray⟩) ∧ w.grownBy w' none := by
  refine (Tryz.strconv_FormatUint_10 u hu w htab).mono ?_
  rintro e w' ⟨rfl, k, os, rfl⟩
  refine ⟨rfl, rfl, rfl, rfl, ?_, fun B hB _ => ?_⟩
  · show w.heap.size ≤ (w.heap ++ os).size
    simp
  · show (w.heap ++ os)[B]? = w.heap[B]?
    rw [Array.getElem?_append_left hB]

set_option maxHeartbeats 1000000 in
theorem Tryz.back_in (F : Fence) (n : Nat) (h : F.fn 120) (hro : F.round = none) (a : Option Addr) (len cap : Nat) (w : World) :
    CallsIn F n Tryz.prog 120 #[.slice a len cap] w fun e w' => e = .returned (.func (.func 147) #[] #[.pointer (some ⟨w.heap.size, 0, none⟩)]) ∧ w' = w.alloc (.cells #[.slice a len cap] 55) := by
  refine callsIn_of_wp Tryz.func120 rfl h ?_ hro
  simp only [Tryz.ntmps120, List.size_toArray, List.length_cons, List.length_nil, Nat.reduceAdd, Nat.reduceSub, Array.replicate_succ, Array.replicate_zero, List.push_toArray, List.append_toArray, List.nil_append, List.cons_append]
  gi_wp2
  go_ret
  exact ⟨rfl, rfl⟩

theorem Tryz.back_stops (F : Fence) (n : Nat) (h8 : F.fn 147) (hro : F.round = none) (hn : 1 ≤ n) (Bs n₀ b off len cap : Nat) (f : Nat → Nat × Limb) (hf : ∀ k, k < len → (f k).1 = len - 1 - k) (hreach : len ≤ 140737488351232) (hb : b < n₀) (w : World) (hBs : Bs < w.heap.size) (hn₀ : n₀ ≤ w.heap.size)
    (hc0 : w.cell? ⟨Bs, 0, none⟩ = some (.slice (some ⟨b, off, none⟩) len cap)) (hc : ∀ k, k < len → w.cell? ⟨b, off + (len - 1 - k), none⟩ = some (.int .u32 (f k).2.1)) :
    SeqStopsK F n Tryz.prog 147 #[.pointer (some ⟨Bs, 0, none⟩)] encB (KeepsBox n₀ Bs) (fun ys => ys = backUpto f len) (fun pre => ∃ k, k ≤ len ∧ pre = backUpto f k) len w := fun l J Jx W hW _ _ hY h0 => by
  have hW' := hW.mono hn₀
  exact Tryz.back1_in F n h8 hro hn l Bs n₀ b off len cap f hf hreach hb J Jx hY W ((hW.cell (p := ⟨Bs, 0, none⟩) hBs).trans hc0) (fun k hk => (hW'.cell (p := ⟨b, off + (len - 1 - k), none⟩) hb).trans (hc k hk)) h0

theorem tab_kept {w w' : World} (h : Lib.TabIs Tryz.prog w "internal/strconv.uint64pow10" .u64 Lib.pow10Tab) (hb : Below w.heap.size w w') : Lib.TabIs Tryz.prog w' "internal/strconv.uint64pow10" .u64 Lib.pow10Tab := by
  unfold Lib.TabIs World.var? at h ⊢
  cases hg : Tryz.prog.globalNamed "internal/strconv.uint64pow10" with
  | none => rw [hg] at h; cases h
  | some g =>
    rw [hg] at h
    simp only [Option.bind_some] at h ⊢
    have hlt : g < w.heap.size := by
      rcases Nat.lt_or_ge g w.heap.size with h' | h'
      · exact h'
      · rw [Array.getElem?_eq_none h'] at h; cases h
    rw [hb.block g hlt]
    exact h

/-- What has been written when the limbs 'pre' have come. -/
def accT (top : Int) (pre : List (Nat × Limb)) : List UInt8 := Lib.decDigits top.toNat ++ (pre.map fun p => pad9 p.2.1).flatten
theorem accT_snoc (top : Int) (pre : List (Nat × Limb)) (x : Nat × Limb) : accT top (pre ++ [x]) = accT top pre ++ pad9 x.2.1 := by simp [accT]
theorem nDigits_limb (u : Nat) (h : u < 1000000000) : Lib.nDigits u ≤ 9 := by
  have : ∀ k u, u < 10 ^ (k + 1) → Lib.nDigits u ≤ k + 1 := by
    intro k
    induction k with
    | zero => intro u hu; rw [Lib.nDigits_small (by simpa using hu)]; exact Nat.le_refl _
    | succ k ih =>
      intro u hu
      by_cases h : u < 10
      · rw [Lib.nDigits_small h]; omega
      · rw [Lib.nDigits_big h]
        have := ih (u / 10) (by rw [Nat.pow_succ] at hu; omega)
        omega
  exact this 8 u h
theorem pad9_length (y : Int) (h : 0 ≤ y ∧ y < 1000000000) : (pad9 y).length = 9 := by
  have := nDigits_limb y.toNat (by omega)
  simp [pad9, Lib.decDigits_length]; omega
theorem accT_length (top : Int) (h : 0 ≤ top ∧ top < 1000000000) (pre : List (Nat × Limb)) : (accT top pre).length ≤ 9 + 9 * pre.length := by
  have h1 : (Lib.decDigits top.toNat).length ≤ 9 := by rw [Lib.decDigits_length]; exact nDigits_limb _ (by omega)
  unfold accT
  rw [List.length_append]
  have : ((pre.map fun p => pad9 p.2.1).flatten).length = 9 * pre.length := by
    induction pre with
    | nil => rfl
    | cons x pre ih => simp only [List.map_cons, List.flatten_cons, List.length_append, ih, pad9_length _ x.2.2, List.length_cons]; omega
  omega
def zeros9 : ByteArray := ⟨#[48, 48, 48, 48, 48, 48, 48, 48, 48]⟩

theorem wrote_box {n Bs bb : Nat} {W W' : World} {c : Array Value} {fz : Nat × Nat} (hb : Below n W W') (hk : OthersKept 5 (some bb) W W') (hbox : W.heap[Bs]? = some (.cells c 55 fz)) (hne : Bs ≠ bb) : KeepsBox n Bs W W' :=
  ⟨hb, (hk Bs _ hbox (fun e => hne (by cases e; rfl)) (fun c' fz' e => by cases e)).trans hbox.symm⟩
theorem wrote_from {n B bb : Nat} {W W' : World} (hb : Below n W W') (hk : OthersKept 5 (some bb) W W') (hlt : bb < B) : KeepsFrom B W W' :=
  ⟨hb.size, fun k o hB ho hc => hk k o ho (fun e => by cases e; omega) (fun c' fz' e => by rw [e] at hc; cases hc)⟩
theorem grew_box {n Bs : Nat} {W W' : World} (hg : W.grownBy W' none) (hn : n ≤ W.heap.size) (hBs : Bs < W.heap.size) : KeepsBox n Bs W W' :=
  ⟨(below_of_grown hg).mono hn, hg.block Bs hBs (by simp)⟩

theorem zeros_cut (k : Nat) (h : k ≤ 9) : ({ data := #[48, 48, 48, 48, 48, 48, 48, 48, 48] } : ByteArray).extract k 9 = ⟨(List.replicate (9 - k) (48 : UInt8)).toArray⟩ := by
  match k, h with
  | 0, _ => rfl
  | 1, _ => rfl
  | 2, _ => rfl
  | 3, _ => rfl
  | 4, _ => rfl
  | 5, _ => rfl
  | 6, _ => rfl
  | 7, _ => rfl
  | 8, _ => rfl
  | 9, _ => rfl

theorem Tryz.fmtUi (z : Int) (hz : 0 ≤ z ∧ z < 1000000000) (w : World) (htab : Lib.TabIs Tryz.prog w "internal/strconv.uint64pow10" .u64 Lib.pow10Tab) :
    Calls Tryz.prog 119 #[.int .u64 z, .int .i64 10] w fun e w' => e = .returned (.string ⟨(Lib.decDigits z.toNat).toArray⟩) ∧ w.grownBy w' none := by
  have hn : (z.toNat : Int) = z := Int.toNat_of_nonneg hz.1
  have := Tryz.fmtU z.toNat (by omega) w htab
  rwa [hn] at this
theorem isB_kept {B b : Nat} {bs : List Value} {w w' : World} (h : IsBuilderF 92 5 B b bs w) (hg : w.grownBy w' none) : IsBuilderF 92 5 B b bs w' :=
  h.elim (fun h => .inl (builderF_kept h hg fun r e => by cases e)) (fun h => .inr (builderF_kept h hg fun r e => by cases e))
theorem strCells_mk (l : List UInt8) : Lib.strCells ⟨l.toArray⟩ = Lib.byteCells l := rfl
theorem byteCells_app (a b : List UInt8) : Lib.byteCells (a ++ b) = Lib.byteCells a ++ Lib.byteCells b := by simp [Lib.byteCells]
theorem byteCells_len (a : List UInt8) : (Lib.byteCells a).length = a.length := by simp [Lib.byteCells]
theorem size_mk (l : List UInt8) : (⟨l.toArray⟩ : ByteArray).size = l.length := by simp [ByteArray.size]

set_option maxRecDepth 100000 in
set_option maxHeartbeats 4000000 in
theorem Tryz.nat_text (b off len cap : Nat) (f : Nat → Nat × Limb) (top : Int) (htop : 0 ≤ top ∧ top < 1000000000) (hf : ∀ k, k < len → (f k).1 = len - 1 - k) (hreach : len ≤ 1000000000000) (hcap : len + 1 ≤ cap) (w : World) (hb : b < w.heap.size)
    (hct : w.cell? ⟨b, off + len, none⟩ = some (.int .u32 top)) (hc : ∀ k, k < len → w.cell? ⟨b, off + (len - 1 - k), none⟩ = some (.int .u32 (f k).2.1)) (htab : Lib.TabIs Tryz.prog w "internal/strconv.uint64pow10" .u64 Lib.pow10Tab) :
    Calls Tryz.prog 81 #[.slice (some ⟨b, off, none⟩) (len + 1) cap] w fun e W' => e = .returned (.string ⟨(accT top (backUpto f len)).toArray⟩) ∧ Below w.heap.size w W' := by
  refine (callsIn_wide (n := 5)).1 ?_
  refine callsIn_of_wp_marks Tryz.func81 rfl trivial ?_ rfl
  simp only [Tryz.ntmps81, List.size_toArray, List.length_cons, List.length_nil, Nat.reduceAdd, Nat.reduceSub, Array.replicate_succ, Array.replicate_zero, List.push_toArray, List.append_toArray, List.nil_append, List.cons_append]
  gi_wp2_with (fail)
  have hB0 : Below w.heap.size w (w.alloc (.cells #[.pointer none, .slice none 0 0] 92)) := (Below.refl _ w).alloc (Nat.le_refl _) _
  have hI0 := IsBuilderF.of (fresh_isBuilder 92 5 w)
  refine ⟨trivial, ?_⟩
  gi_at_call 119
  refine (callsIn_wide.2 (Tryz.fmtUi top htop _ (tab_kept htab hB0))).mono ?_
  rintro e W1 ⟨rfl, hg1⟩
  have hI1 := isB_kept hI0 hg1
  have hB1 : Below w.heap.size w W1 := hB0.trans ((below_of_grown hg1).mono (by simp))
  have hz1 : w.heap.size + 1 ≤ W1.heap.size := by have := hg1.size; simpa using this
  clear hI0 hg1
  gi_wp2_with (fail)
  have hl1 : (Lib.decDigits top.toNat).length ≤ 9 := by rw [Lib.decDigits_length]; exact nDigits_limb _ (by omega)
  refine ⟨trivial, ?_⟩
  gi_at_call 100
  refine (callsIn_wide.2 (Tryz.Builder_WriteString_k w.heap.size w.heap.size [] ⟨(Lib.decDigits top.toNat).toArray⟩ W1 hI1 (by rw [size_mk]; simp; omega) (by omega))).mono ?_
  rintro e W2 ⟨rfl, hI2, hB2, -⟩
  have hB2' : Below w.heap.size w W2 := hB1.trans hB2
  have hz2 : w.heap.size + 1 ≤ W2.heap.size := by have := hB2.size; exact hI2.lt
  clear hI1 hB2
  gi_wp2_with (fail)
  refine ⟨trivial, ?_⟩
  gi_at_call 120
  refine (Tryz.back_in Fence.wide 4 trivial rfl _ _ _ _).mono ?_
  rintro e W3 ⟨rfl, rfl⟩
  gi_wp2_with (fail)
  have hnil : (Lib.byteCells (accT top [])) = [] ++ strCells ⟨(decDigits top.toNat).toArray⟩ := by simp [accT, strCells_mk]
  rw [← hnil] at hI2
  have hI3 : BuilderAtF 92 5 w.heap.size w.heap.size (.pointer (some ⟨w.heap.size, 0, none⟩)) (Lib.byteCells (accT top [])) (W2.alloc (.cells #[.slice (some ⟨b, off, none⟩) len cap] 55)) :=
    builderF_kept hI2 (World.grownBy_alloc _ _ none) fun r e => by cases e
  have hB3 : Below w.heap.size w (W2.alloc (.cells #[.slice (some ⟨b, off, none⟩) len cap] 55)) := hB2'.alloc (by omega) _
  have hbox : (W2.alloc (.cells #[.slice (some ⟨b, off, none⟩) len cap] 55)).heap[W2.heap.size]? = some (.cells #[.slice (some ⟨b, off, none⟩) len cap] 55 (0, 0)) := World.alloc_heap_new _ _
  have hcellb : (W2.alloc (.cells #[.slice (some ⟨b, off, none⟩) len cap] 55)).cell? ⟨W2.heap.size, 0, none⟩ = some (.slice (some ⟨b, off, none⟩) len cap) := by unfold World.cell?; rw [hbox]; rfl
  have hcells : ∀ k, k < len → (W2.alloc (.cells #[.slice (some ⟨b, off, none⟩) len cap] 55)).cell? ⟨b, off + (len - 1 - k), none⟩ = some (.int .u32 (f k).2.1) := fun k hk => (hB3.cell (p := ⟨b, off + (len - 1 - k), none⟩) hb).trans (hc k hk)
  obtain ⟨W3, hW3⟩ : ∃ W3, W2.alloc (.cells #[.slice (some ⟨b, off, none⟩) len cap] 55) = W3 := ⟨_, rfl⟩
  have hz3 : W3.heap.size = W2.heap.size + 1 := by rw [← hW3]; simp
  rw [hW3] at hI3 hB3 hbox hcellb hcells ⊢
  clear hI2 hnil
  refine wpIn_rangeFunc_ownG rfl (by omega) (gf := 147) (lb := #[.pointer (some ⟨W2.heap.size, 0, none⟩)]) rfl trivial (enters_of Tryz.func147 (by kernel_rfl) rfl)
    (Tryz.back_stops Fence.wide (5 - 1) trivial rfl (by omega) W2.heap.size w.heap.size b off len cap f hf (by omega) hb W3 (by omega) (by omega) hcellb hcells)
    (fun h k => h.trans k) (fun W l o o' hl ho hc1 hc2 => ⟨belowK_b (by omega) W l o o' hl ho hc1 hc2, ?kb⟩) (Below.refl _ _) (fun _ => rfl)
    (fun pre W => BuilderAtF 92 5 w.heap.size w.heap.size (.pointer (some ⟨w.heap.size, 0, none⟩)) (Lib.byteCells (accT top pre)) W ∧ (W.heap[W2.heap.size]? = some (.cells #[.slice (some ⟨b, off, none⟩) len cap] 55 (0, 0)) ∧ Below w.heap.size w W))
    (fun _ _ _ => False)
    (OwnFrom.and (builderF_own _ _ _ (fun pre => Lib.byteCells (accT top pre))) (OwnFrom.and (fun s A B' row hs hg hr => ?own2) (ownFrom_below (Nat.le_refl _) (by omega))))
    (fun _ _ _ _ _ hs _ _ => hs)
    ⟨hI3, hbox, hB3⟩
    (fun x => { tmps := #[.slice (some ⟨b, off, none⟩) (len + 1) cap, undef, .string ⟨#[]⟩, .pointer (some ⟨w.heap.size, 0, none⟩), undef, .int .u32 x.2.1, undef, .slice (some ⟨b, off, none⟩) (len + 1) cap, .int .i64 ((len : Int) + 1), .bool false, .slice (some ⟨b, off, none⟩) (len + 1) cap, .slice (some ⟨b, off, none⟩) (len + 1) cap, .int .i64 ((len : Int) + 1), .int .i64 (len : Int), .pointer (some ⟨b, off + len, none⟩), .int .u32 top, .int .u64 top, .string ⟨(Lib.decDigits top.toNat).toArray⟩, .tuple #[.int .i64 ((Lib.decDigits top.toNat).length : Int), .nilIface], .slice (some ⟨b, off, none⟩) (len + 1) cap, .slice (some ⟨b, off, none⟩) (len + 1) cap, .int .i64 ((len : Int) + 1), .int .i64 (len : Int), .slice (some ⟨b, off, none⟩) len cap, .func (.func 147) #[] #[.pointer (some ⟨W2.heap.size, 0, none⟩)], .int .i64 (x.1 : Int), .int .u32 x.2.1, undef, undef, undef, undef, undef, undef, undef, undef, undef, undef], defers := [] }) ?assign ?body ?done ?stop
  case kb => exact World.putObj_heap_other (fun e => by omega)
  case own2 => exact (hg.block _ (Array.getElem?_eq_some_iff.1 hs).1 (fun e => by obtain ⟨o, ho, hc'⟩ := (hr _ e.symm).2; rw [hs] at ho; cases ho; cases hc')).trans hs
  case assign =>
    intro l x W K hK
    dsimp only [encB]
    gi_wp2
    exact hK
  case body =>
    rintro l pre x W ⟨hI, hbx, hB⟩ hlt
    have hx := x.2.2
    have hzW : W2.heap.size < W.heap.size := (Array.getElem?_eq_some_iff.1 hbx).1
    gi_wp2_with (fail)
    refine ⟨trivial, ?_⟩
    gi_at_call 119
    refine (CallsIn.inRound l (callsIn_wide.2 (Tryz.fmtUi x.2.1 hx W (tab_kept htab hB)))).mono ?_
    rintro e Wa ⟨rfl, hga⟩
    have hda : (Lib.decDigits x.2.1.toNat).length ≤ 9 := by rw [Lib.decDigits_length]; exact nDigits_limb _ (by omega)
    gi_wp2_with (fail)
    have hIa : IsBuilderF 92 5 w.heap.size w.heap.size (Lib.byteCells (accT top pre)) Wa := .inr (builderF_kept hI hga fun r e => by cases e)
    have hBa : Below w.heap.size w Wa := hB.trans ((below_of_grown hga).mono (by omega))
    have hKa : KeepsBox w.heap.size W2.heap.size W Wa := grew_box hga (by omega) hzW
    have hFa : KeepsFrom W3.heap.size W Wa := KeepsFrom.of_grownBy hga (fun j e => by cases e)
    have hbxa : Wa.heap[W2.heap.size]? = some (.cells #[.slice (some ⟨b, off, none⟩) len cap] 55 (0, 0)) := hKa.2.trans hbx
    have hal := accT_length top htop pre
    have hzs : ({ data := #[48, 48, 48, 48, 48, 48, 48, 48, 48] } : ByteArray).extract (Lib.decDigits x.2.1.toNat).length 9 = ⟨(List.replicate (9 - (Lib.decDigits x.2.1.toNat).length) (48 : UInt8)).toArray⟩ := zeros_cut _ hda
    refine ⟨trivial, ?_⟩
    gi_at_call 100
    rw [hzs]
    refine (CallsIn.inRound l (callsIn_wide.2 (Tryz.Builder_WriteString_k w.heap.size w.heap.size (Lib.byteCells (accT top pre)) ⟨(List.replicate (9 - (Lib.decDigits x.2.1.toNat).length) (48 : UInt8)).toArray⟩ Wa hIa (by rw [size_mk, byteCells_len, List.length_replicate]; omega) hBa.size))).mono ?_
    rintro e Wb ⟨rfl, hIb, hBb, hkb⟩
    have hKb := wrote_box hBb hkb hbxa (by omega)
    have hFb : KeepsFrom W3.heap.size Wa Wb := wrote_from hBb hkb (by omega)
    have hbxb : Wb.heap[W2.heap.size]? = some (.cells #[.slice (some ⟨b, off, none⟩) len cap] 55 (0, 0)) := hKb.2.trans hbxa
    clear hzs
    gi_wp2_with (fail)
    refine ⟨trivial, ?_⟩
    gi_at_call 100
    refine (CallsIn.inRound l (callsIn_wide.2 (Tryz.Builder_WriteString_k w.heap.size w.heap.size _ ⟨(Lib.decDigits x.2.1.toNat).toArray⟩ Wb (.inr hIb) (by rw [List.length_append, strCells_mk, byteCells_len, byteCells_len, size_mk, List.length_replicate]; omega) (hBa.trans hBb).size))).mono ?_
    rintro e Wc ⟨rfl, hIc, hBc, hkc⟩
    have hKc := wrote_box hBc hkc hbxb (by omega)
    have hFc : KeepsFrom W3.heap.size Wb Wc := wrote_from hBc hkc (by omega)
    have hbxc : Wc.heap[W2.heap.size]? = some (.cells #[.slice (some ⟨b, off, none⟩) len cap] 55 (0, 0)) := hKc.2.trans hbxb
    have hfin : Lib.byteCells (accT top (pre ++ [x])) = Lib.byteCells (accT top pre) ++ strCells ⟨(List.replicate (9 - (Lib.decDigits x.2.1.toNat).length) (48 : UInt8)).toArray⟩ ++ strCells ⟨(Lib.decDigits x.2.1.toNat).toArray⟩ := by
      rw [accT_snoc, byteCells_app, strCells_mk, strCells_mk]; unfold pad9; rw [byteCells_app, List.append_assoc]
    rw [← hfin] at hIc
    gi_wp2_with (fail)
    exact ⟨(hFa.trans hFb).trans hFc, (hKa.trans hKb).trans hKc, hIc, hbxc, (hBa.trans hBb).trans hBc⟩
  case done =>
    rintro D ys W hD rfl ⟨hI, hbx, hB⟩ hK
    gi_wp2_with (fail)
    refine ⟨trivial, ?_⟩
    gi_at_call 102
    refine (callsIn_wide.2 (Tryz.Builder_String_any_k w.heap.size w.heap.size (accT top (backUpto f len)) W (.inr hI) hB.size)).mono ?_
    rintro e Wd ⟨rfl, -, hBd, hkd⟩
    have hK' : Wd.heap[D]? = some (.deferred (some [])) := hkd D _ hK (fun e => by cases e; omega) (fun c fz e => by cases e)
    have hBD : Below w.heap.size w Wd := hB.trans hBd
    gi_wp2_with (fail)
    refine ⟨by simp, .inl ⟨_, _, rfl, run_takeDeferred hK', ?_⟩⟩
    exact ⟨_, results_tmp rfl _ _ _, rfl, hBD.trans (belowK_b (w := w) (Nat.le_refl _) Wd D _ _ (by omega) hK' rfl rfl)⟩
  case stop =>
    rintro D c pre W _ _ h _
    exact h.elim
end Go.Proofs
end
section
namespace Go.Proofs
open Go.Shelf Go.RowKit Go.Lib Go.AM.Num
set_option maxRecDepth 100000 in
set_option maxHeartbeats 1000000 in
theorem Tryz.nat_text_nil (a : Option Addr) (cap : Nat) (w : World) :
    Calls Tryz.prog 81 #[.slice a 0 cap] w fun e w' => e = .returned (.string ⟨#[48]⟩) ∧ w' = w := by
  go_enter Tryz.func81, Tryz.ntmps81
  go_wp2_with (fail)
  go_ret
  exact ⟨rfl, rfl⟩
end Go.Proofs
namespace Go.AM.Num
open Go.Proofs Go.RowKit
/-- The k-th limb from the last but one down. -/
def limbAt (l : List Int) (h : ∀ x ∈ l, 0 ≤ x ∧ x < 1000000000) (len k : Nat) : Nat × Limb :=
  (len - 1 - k, if hk : len - 1 - k < l.length then ⟨l[len - 1 - k], h _ (List.getElem_mem hk)⟩ else ⟨0, by decide⟩)
theorem natText_eq (l : List Int) (h : ∀ x ∈ l, 0 ≤ x ∧ x < 1000000000) (len : Nat) (hl : l.length = len + 1) :
    natText l = accT (l[len]) (backUpto (limbAt l h len) len) := by
  have hr : l.reverse = l[len] :: (l.take len).reverse := by
    have : l = l.take len ++ [l[len]] := by
      rw [← List.take_succ_eq_append_getElem (by omega), List.take_of_length_le (by omega)]
    conv => lhs; rw [this, List.reverse_append]
    rfl
  have hb : (l.take len).reverse.map pad9 = (backUpto (limbAt l h len) len).map fun p => pad9 p.2.1 := by
    apply List.ext_getElem
    · simp [backUpto]; omega
    · intro i h1 h2
      simp only [List.length_map, List.length_reverse, List.length_take] at h1
      have hi : len - 1 - i < l.length := by omega
      simp only [List.getElem_map, List.getElem_reverse, List.getElem_take, backUpto, List.getElem_range, List.length_take, limbAt]
      rw [dif_pos (by omega)]
      congr 2
      omega
  unfold natText accT
  rw [hr]
  simp only [hb]

theorem n_nat_text_good {V : Env} (hP : V.P = Tryz.prog) (hV : ∀ w, V.G w → GN w) : Good V 81 n_nat_text_C :=
  good_ext ⟨_, hP ▸ Tryz.func81, by decide, by rfl⟩ (fun _ => rfl) (fun _ => rfl) (fun x y o hx w I β vs hG ha => by
    obtain ⟨v, rfl, h1⟩ := args1 ha
    simp only [n_nat_text_C, n_nat_text] at hx
    split at hx
    case isFalse => cases hx
    rename_i hc
    obtain ⟨hlen, hall⟩ := hc
    have hall' : ∀ z ∈ x.1, 0 ≤ z ∧ z < 1000000000 := fun z hz => by have := List.all_eq_true.1 hall z hz; simpa using this
    simp only [Option.some.injEq] at hx
    obtain ⟨rfl, _⟩ := hx
    simp only [TV, GT.isAgg, RelC] at h1
    obtain ⟨a, c, h2, hcap, hcell⟩ := h1
    have : v = .slice a x.1.length c := by simpa using h2
    subst this
    rw [hP]
    cases hl : x.1.length with
    | zero =>
      have hx0 : x.1 = [] := List.eq_nil_of_length_eq_zero hl
      refine Calls.mono (Tryz.nat_text_nil a c w) ?_
      rintro e w' ⟨rfl, rfl⟩
      refine ⟨_, rfl, Ext.refl _, fun rd I' β' => ⟨[_], rfl, ?_⟩⟩
      simp only [n_nat_text_C, resOK]
      exact ⟨_, _, rfl, by rw [hx0]; exact str_tv [48], trivial, rfl⟩
    | succ len =>
      obtain ⟨B, off, rfl, -, hcs⟩ := hcell (fun e => by rw [e] at hl; cases hl)
      have hat : ∀ i (hi : i < x.1.length), w.cell? ⟨B, off + i, none⟩ = some (.int .u32 x.1[i]) := fun i hi => by
        obtain ⟨us, hu, hr, rfl⟩ := hcs i _ (List.getElem?_eq_getElem hi)
        have := hr 0 (by decide)
        simpa [rdW, GT.cells] using this
      have hB : B < w.heap.size := World.block_lt_of_cell? w ⟨B, off + 0, none⟩ (hat 0 (by omega))
      have hmem : ∀ i (hi : i < x.1.length), 0 ≤ x.1[i] ∧ x.1[i] < 1000000000 := fun i hi => hall' _ (List.getElem_mem hi)
      have hcall := Tryz.nat_text B off len c (limbAt x.1 hall' len) x.1[len] (hmem len (by omega)) (fun k hk => rfl) (by omega) (by omega) w hB (hat len (by omega)) (fun k hk => by
        rw [hat (len - 1 - k) (by omega)]
        simp only [limbAt]
        rw [dif_pos (by omega)]) (hV w hG).pow10
      refine Calls.mono hcall ?_
      rintro e w' ⟨rfl, hb⟩
      refine ⟨_, rfl, Ext.of_below hb, fun rd I' β' => ⟨[_], rfl, ?_⟩⟩
      simp only [n_nat_text_C, resOK]
      exact ⟨_, _, rfl, by rw [natText_eq x.1 hall' len hl]; exact str_tv _, trivial, rfl⟩) (fun _ => rfl)
end Go.AM.Num
end
