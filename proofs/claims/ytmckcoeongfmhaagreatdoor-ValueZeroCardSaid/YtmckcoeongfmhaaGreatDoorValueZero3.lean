/- Law ValueZero of the values: a machine of plain values, what the program's functions compute in it, and what that is. No condition beyond what the statement says. -/
import Derived.Test.YtmckcoeongfmhaaGreatDoorValueZero2
import Derived.RangeFuncLeaves
import Derived.RangeFuncWrites
import Derived.KernelRfl
import Derived.RangeFuncKeeps
import Derived.RangeFuncRecord
import Derived.RangeFuncSeq
import Derived.Lib.Repeat
import Derived.Lib.ParseIntB
import Derived.Lib.Strings
import Derived.Lib.SlTrimSet
import Derived.Lib.Atoi
import Derived.Lib.AtoiAll
import Derived.Lib.ItoaNum
import Derived.Lib.IndexMore
import Derived.Test.YtmckcoeongfmhaaGreatDoorProg
import Derived.TacticsInMore
import Derived.LoopNIn
import Derived.LoopIn
import Derived.RangeFuncBox
import Derived.RangeFuncNested
import Derived.OwnWalkIn
import Derived.Shelf.Abstract
import Derived.WalkKit
import Derived.Lib.Walk
import Derived.BigCall
import Derived.BigGuard
set_option linter.unusedSimpArgs false
set_option linter.unusedVariables false
section
namespace Go.AM
open Go.RowKit (Below)

theorem putAll_len : ∀ (ts : List Nat) (azs l : List AV), (putAll ts azs l).length = l.length
  | [], _, _ => rfl
  | _ :: _, [], _ => rfl
  | t :: ts, a :: azs, l => by simp only [putAll]; rw [putAll_len, List.length_set]

theorem putAll_get : ∀ (ts : List Nat) (azs l : List AV) (t : Nat) (y : AV), (putAll ts azs l)[t]? = some y → l[t]? = some y ∨ ∃ i : Nat, ts[i]? = some t ∧ azs[i]? = some y
  | [], _, _, _, _, h => .inl h
  | _ :: _, [], _, _, _, h => .inl h
  | s :: ts, a :: azs, l, t, y, h => by
    simp only [putAll] at h
    rcases putAll_get ts azs _ t y h with h | ⟨i, h1, h2⟩
    · by_cases e : s = t
      · subst e
        rw [List.getElem?_set] at h
        simp only [if_true] at h
        split at h
        · cases h; exact .inr ⟨0, rfl, rfl⟩
        · cases h
      · rw [List.getElem?_set_ne e] at h; exact .inl h
    · exact .inr ⟨i + 1, by simpa using h1, by simpa using h2⟩

section
variable {V : Env} {Γ : Base} {ro : Option Nat}

theorem slots_rel {a : Act} {w : World} {β : Nat → Option Place} {st : St} (hs : SimB Γ st a w β) (slots : List Nat) : RelL (rdW w) (Γ.after w β st.heap) β (slots.map fun t => st.tmps.getD t .any) (slots.map fun t => a.eval (.tmp t)) := by
  have := evs_ok hs (slots.map Operand.tmp)
  simpa [St.ev, Function.comp_def] using this
theorem slot_val {a : Act} {t : Nat} (h : t < a.tmps.size) : a.tmps[t]? = some (a.eval (.tmp t)) := by
  simp [Act.eval, Array.getD_eq_getD_getElem?, h]


theorem canonB {A : Ann} {st : St} {x : tysP A.ps} (hd : decSt A st = some x) {a : Act} {w : World} {β : Nat → Option Place} (hs : SimB Γ st a w β) : ∃ β', SimB Γ (encSt A x) a w β' ∧ ∀ B, Γ.after w β st.heap B → Γ.after w β' (encSt A x).heap B := by
  unfold decSt at hd
  split at hd
  case h_2 => cases hd
  rename_i x' s t m hx
  split at hd
  case isFalse => cases hd
  rename_i hc
  cases hd
  obtain ⟨hn, hc⟩ := hc
  simp only [Bool.and_eq_true, decide_eq_true_eq] at hc
  obtain ⟨⟨⟨hnd, hdj⟩, hog⟩, hwh⟩ := hc
  obtain ⟨zs, zt, D⟩ := decArgs_ok hs.ctx [] A.ps _ _ x s t m (slots_rel hs A.slots) hx
  obtain ⟨hctx, hrel⟩ := dec_all hs D hnd hdj
  have hrZ : ∀ z ∈ zs ++ zt, RefOK β st.heap z := fun z hz => (List.mem_append.1 hz).elim (D.refs z) (D.reft z)
  have hids : idsOf (s ++ t) = idsOf ((zs ++ zt).map (·.1)) := by rw [List.map_append, ← D.s_eq, ← D.t_eq]
  have hlenZ : (rowsIn A.ps x).length = (zs ++ zt).length := by rw [rowsIn_len, List.length_append, D.lenK, D.lenN]
  have hI : ∀ B, withRows (Γ.after w β st.heap) β m B → Γ.after w (plcZ (zs ++ zt)) (rowsIn A.ps x) B := by
    intro B hB
    refine ⟨(hctx.imm B hB).1, ?_, (hctx.imm B hB).2⟩
    rcases hB with hB | ⟨b, hb, p, hp, hk, rfl⟩
    · exact hB.2.1
    · obtain ⟨r, hr⟩ := D.alive b hb
      rcases hs.own b r p hr hp hk with h' | h'
      · exact .inr (.inr h')
      · exact .inr (.inl h')
  have hm : Mono (rdW w) (withRows (Γ.after w β st.heap) β m) (rdW w) (Γ.after w (plcZ (zs ++ zt)) (rowsIn A.ps x)) := ⟨hI, fun _ _ _ _ h => h⟩
  refine ⟨plcZ (zs ++ zt), ⟨⟨fun i r hr => ?_, hctx.apart, fun B hB => ⟨hB.1, hB.2.2⟩, hctx.dom⟩, hs.frm, ?_, fun t y hy => ?_, hs.defers, fun j i hj => ?_, hs.gbw, hs.low, fun i r q hr hq hk => ?_⟩, fun B hB => hI B (.inl hB)⟩
  · obtain ⟨p, hp, h1, h2⟩ := hctx.rows i r hr
    exact ⟨p, hp, h1, rowRel_mono hm (fun _ _ h => h) (fun _ => rfl) r h2⟩
  · simp only [encSt, putAll_len, List.length_replicate]; rw [← hn]; exact hs.len
  · have ht : t < A.n := by
      have := (List.getElem?_eq_some_iff.1 hy).1
      simpa [encSt, putAll_len] using this
    have hta : t < a.tmps.size := by rw [← hs.len, hn]; exact ht
    refine ⟨_, slot_val hta, ?_⟩
    rcases putAll_get _ _ _ t y hy with h | ⟨i, h1, h2⟩
    · simp only [List.getElem?_replicate, ht, if_true, Option.some.injEq] at h
      subst h; simp [RelV]
    · obtain ⟨v, hv, hr⟩ := relL_get _ _ hrel i y h2
      simp only [List.getElem?_map, h1, Option.map_some, Option.some.injEq] at hv
      subst hv
      exact relV_mono hm (fun _ _ h => h) _ _ hr
  · have hj' : st.orig[j]? = some ((idsOf (s ++ t)).getD i st.heap.length) := by
      rw [hog, List.getElem?_map]
      have : A.og[j]? = some i := hj
      rw [this]; rfl
    obtain ⟨o1, o2, o3⟩ := hs.orig j _ hj'
    cases hid : (idsOf (s ++ t))[i]? with
    | none => rw [List.getD_eq_getElem?_getD, hid] at o2; simp at o2
    | some b =>
      rw [List.getD_eq_getElem?_getD, hid] at o1 o2 o3
      simp only [Option.getD_some] at o1 o2 o3
      rw [hids, ids_ref _ hrZ] at hid
      obtain ⟨z, hz, hzb⟩ := Option.bind_eq_some_iff.1 hid
      obtain ⟨b', p, r0, c1, c2, c3, c4, c5, c6, _⟩ := hrZ z (List.mem_of_getElem? hz)
      rw [hzb] at c1; cases c1
      have hw : z.1.whole = true := by
        have := List.all_eq_true.1 hwh i (List.mem_of_getElem? hj)
        rw [D.s_eq, D.t_eq, ← List.map_append, List.getD_eq_getElem?_getD, List.getElem?_map, hz] at this
        exact this
      have hpz : plcZ (zs ++ zt) i = some p := by simp only [plcZ, hz, Option.map_some]; rw [c6 hw]
      refine ⟨by rw [hpz, ← c3]; exact o1, ?_, fun r' p' _ hp hk => ?_⟩
      · have := (List.getElem?_eq_some_iff.1 hz).1
        show i < (rowsIn A.ps x).length
        omega
      · rw [hpz] at hp; cases hp
        exact o3 r0 _ c2 c3 hk
  · have hi := (List.getElem?_eq_some_iff.1 hr).1
    obtain ⟨z, hz⟩ : ∃ z, (zs ++ zt)[i]? = some z := ⟨_, List.getElem?_eq_getElem (by have : i < (rowsIn A.ps x).length := hi; omega)⟩
    obtain ⟨b', p, r0, c1, c2, c3, c4, c5, _⟩ := hrZ z (List.mem_of_getElem? hz)
    simp only [plcZ, hz, Option.map_some, Option.some.injEq] at hq
    subst hq
    rw [c4]
    exact hs.own b' r0 p c2 c3 (c5 ▸ hk)

theorem canon_ok {A : Ann} {st : St} {x : tysP A.ps} (hd : decSt A st = some x) {a : Act} {w : World} (hs : Sim Γ st a w) : Sim Γ (encSt A x) a w := by
  obtain ⟨β, hs⟩ := hs
  obtain ⟨β', h, _⟩ := canonB hd hs
  exact ⟨β', h⟩

theorem put_self {a : Act} {t : Nat} {v : Value} (h : a.tmps[t]? = some v) : a.put (some t) v = a := by
  obtain ⟨tmps, d⟩ := a
  simp only [Act.put]
  congr 1
  apply Array.ext_getElem?
  intro i
  rw [Array.getElem?_setIfInBounds]
  split
  · rename_i e; subst e
    simp only at h
    rw [h, if_pos (Array.getElem?_eq_some_iff.1 h).1]
  · rfl

theorem liftB_st (A : Ann) {st : St} {a : Act} {w : World} {β : Nat → Option Place} (hs : SimB Γ st a w β) : ∃ β', SimB Γ (liftSt A st) a w β' ∧ ∀ B, Γ.after w β st.heap B → Γ.after w β' (liftSt A st).heap B := by
  obtain ⟨β', L, hr⟩ := lift_ok A.ps _ _ hs (slots_rel hs A.slots)
  refine ⟨β', ⟨L.sim.ctx, L.sim.frm, ?_, fun t y hy => ?_, L.sim.defers, L.sim.orig, L.sim.gbw, L.sim.low, L.sim.own⟩, L.mono.imm⟩
  · simp only [liftSt, putAll_len]; exact hs.len
  · have ht : t < a.tmps.size := by
      have := (List.getElem?_eq_some_iff.1 hy).1
      simp only [liftSt, putAll_len] at this
      rw [← hs.len]; exact this
    refine ⟨_, slot_val ht, ?_⟩
    rcases putAll_get _ _ _ t y hy with h | ⟨i, h1, h2⟩
    · obtain ⟨v, hv, hrel⟩ := L.sim.tmps t y h
      rw [slot_val ht] at hv; cases hv
      exact hrel
    · obtain ⟨v, hv, hrel⟩ := relL_get _ _ hr i y h2
      simp only [List.getElem?_map, h1, Option.map_some, Option.some.injEq] at hv
      subst hv
      exact hrel

theorem liftSt_ok (A : Ann) {st : St} {a : Act} {w : World} (hs : Sim Γ st a w) : Sim Γ (liftSt A st) a w := by
  obtain ⟨β, hs⟩ := hs
  obtain ⟨β', h, _⟩ := liftB_st A hs
  exact ⟨β', h⟩

theorem frz_ok : ∀ (ts : List Nat) {st : St} {a : Act} {w : World}, Sim Γ st a w → Sim Γ (frz ts st) a w
  | [], _, _, _, h => h
  | t :: ts, st, a, w, h => by
    simp only [frz]
    split
    · rename_i b ht
      split
      · rename_i e l hb
        refine frz_ok ts ?_
        obtain ⟨β, hs⟩ := h
        have htt : st.tmps[t]? = some (.vw b) := by
          rw [List.getD_eq_getElem?_getD] at ht
          cases hh : st.tmps[t]? with
          | none => rw [hh] at ht; cases ht
          | some y => rw [hh] at ht; rw [← ht]; rfl
        obtain ⟨v, h1, h2⟩ := hs.tmps t _ htt
        obtain ⟨k1, k2⟩ := sim_less (H' := st.heap.set b none) hs List.length_set (fun b' r hr => by
          rw [List.getElem?_set] at hr
          split at hr
          · split at hr <;> simp at hr
          · exact hr)
        obtain ⟨u1, u2, hu, hrel, hnil⟩ := decC_ok hs.ctx (.sl e) [.vw b] [v] l [] [b] (by simp only [RelL]; exact ⟨v, [], rfl, h2, rfl⟩) (by simp [decC, hb])
        simp only [RelL] at hnil; subst hnil
        simp only [List.append_nil] at hu; subst hu
        have hm : Mono (rdW w) (withRows (Γ.after w β st.heap) β [b]) (rdW w) (Γ.after w β (st.heap.set b none)) := ⟨fun B hB => k2 B (by
          rcases hB with hB | ⟨b', hb', p, hp, hk, rfl⟩
          · exact .inl hB
          · simp only [List.mem_singleton] at hb'
            subst hb'
            refine .inr ⟨⟨b', _, p, hb, hp, hk, rfl⟩, ?_⟩
            rintro ⟨b2, r2, p2, e1, e2, e3, e4⟩
            rw [List.getElem?_set] at e1
            split at e1
            · split at e1 <;> simp at e1
            · rename_i hne
              exact hne (hs.ctx.apart b2 b' _ _ p2 p e1 hb e2 hp e3 hk e4).symm), fun _ _ _ _ h => h⟩
        have := k1.put (some t) (x := .sl e false l) (v := v) (by simp only [RelV]; exact ⟨relC_mono hm _ _ _ hrel, by simp⟩)
        rw [put_self h1] at this
        exact ⟨β, this⟩
      · exact frz_ok ts h
    · exact frz_ok ts h


noncomputable def loopF (A : Ann) (exs : List Ex) (step : tysP A.ps → Option (Ex × tysP A.ps)) : LoopO := ⟨fun _ st K => (decSt A (liftSt A st)).bind fun x => (loopO step x).bind fun r => exK r.1 exs fun e => K e (frz A.fz (encSt A r.2))⟩

theorem exK_some {ρ : Type} {x : Ex} {k : Ex → Option ρ} {z : ρ} : ∀ {es : List Ex}, exK x es k = some z → k x = some z
  | [], h => by cases h
  | e :: es, h => by
    simp only [exK, Ex.same] at h
    by_cases hx : x = e
    · simp only [hx, decide_true, cond_true] at h; rw [hx]; exact h
    · simp only [hx, decide_false, cond_false] at h; exact exK_some h

theorem loop_ok {E : Tab} (hE : TabOK V E) (hg : Γ.gb = V.gb) (h0 : V.G Γ.w) {A : Ann} {exs : List Ex} {step : tysP A.ps → Option (Ex × tysP A.ps)} {c : Code} (hl : ∀ a ∈ loopsOf c, ∀ L, E.lp (keyOf a) = some L → Sound V Γ ro a fun ρ => L.f ρ)
    (hstep : ∀ x, run E c (encSt A x) (fun ex st' => (decSt A (liftSt A st')).bind fun y => some (ex, y)) = step x) : Sound V Γ ro (.loop c) fun ρ => (loopF A exs step).f ρ := by
  intro ρ st K z h a w hs Q hQ
  simp only [loopF] at h
  obtain ⟨x, hx, h⟩ := bind_some' h
  obtain ⟨⟨ex, y⟩, hr, h⟩ := bind_some' h
  have h := exK_some h
  obtain ⟨n, hn⟩ := loopO_iff.1 hr
  have body := run_ok hE hg h0 c hl
  have key : ∀ n x a w, Sim Γ (encSt A x) a w → LoopN step n x (ex, y) → Code.roundsIn (FR ro) 0 V.P c Q (n + 1) a w := by
    intro n
    induction n with
    | zero =>
      intro x a w hs hn
      cases hn with
      | done h1 hne =>
        rw [← hstep] at h1
        refine body _ _ _ _ h1 a w hs _ fun ex' st' a' w' hs' h' => ?_
        obtain ⟨y', hy, h'⟩ := bind_some' h'
        cases h'
        have := hQ ex (frz A.fz (encSt A y)) a' w' (frz_ok _ (canon_ok hy (liftSt_ok A hs'))) h
        cases ex with
        | normal => exact absurd rfl hne
        | exit id => exact this
        | ret => exact this
    | succ n ih =>
      intro x a w hs hn
      cases hn with
      | more h1 hm =>
        rw [← hstep] at h1
        refine body _ _ _ _ h1 a w hs _ fun ex' st' a' w' hs' h' => ?_
        obtain ⟨y', hy, h'⟩ := bind_some' h'
        cases h'
        exact ih _ a' w' (canon_ok hy (liftSt_ok A hs')) hm
  exact wpIn_loop_rounds _ (key n x a w (canon_ok hx (liftSt_ok A hs)) hn)
end
end Go.AM
end
section
namespace Go.AM
open Go.RowKit (Below)

def resQ (E : Tab) (st : St) : ResultVar → Option AV
  | .tmp t => st.tmps[t]?
  | .cell a t => match E.ti t, st.heap.at (st.tmps.getD a .any) with
    | some i, some (l, k) => if st.heap.there (st.tmps.getD a .any) then partA i l k else none
    | _, _ => none
def resL (E : Tab) (st : St) : List ResultVar → Option (List AV)
  | [] => some []
  | r :: rs => match resQ E st r with
    | some a => match resL E st rs with
      | some l => some (a :: l)
      | none => none
    | none => none


def outA : List PK → List Nat → List AV
  | .box _ :: ps, b :: og => .ptr b 0 0 :: outA ps og
  | .row _ :: ps, b :: og => .vw b :: outA ps og
  | .mp _ :: ps, b :: og => .mp b :: outA ps og
  | .val _ :: ps, og => outA ps og
  | .own _ :: ps, og => outA ps og
  | .obj _ :: ps, og => outA ps og
  | .view _ :: ps, og => outA ps og
  | _, _ => []

def finQ (E : Tab) (rs : List ResultVar) (ps rk : List PK) (st : St) : Option (tysP rk × tysO ps) :=
  match resL E st rs with
  | some azs =>
    if st.orig.length = cntK ps then
      let L1 := lift (opsOf ps) (outA ps st.orig) st.heap
      let L2 := lift rk azs L1.2
      match decArgs L2.2 [] (opsOf ps) L1.1, decArgs L2.2 L1.1 rk L2.1 with
      | some (o, s1, t1, m1), some (y, s2, t2, m2) => if nodupB (idsOf ((s1 ++ t1) ++ (s2 ++ t2))) && disj (idsOf ((s1 ++ t1) ++ (s2 ++ t2))) (m1 ++ m2) && s1.all AV.whole then some (y, o) else none
      | _, _ => none
    else none
  | none => none

def st0 (n : Nat) (ps : List PK) (x : tysP ps) : St := ⟨encVals ps x 0 (cntK ps) ++ List.replicate (n - ps.length) .undef, rowsIn ps x, List.range (cntK ps)⟩

def fnRun (E : Tab) (n : Nat) (rs : List ResultVar) (c : Code) (ps rk : List PK) (x : tysP ps) : Option (tysP rk × tysO ps) :=
  run E c (st0 n ps x) fun ex st => match ex with
    | .exit _ => none
    | _ => finQ E rs ps rk st

theorem encVals_len : ∀ (ps : List PK) (x : tysP ps) (k j : Nat), (encVals ps x k j).length = ps.length
  | [], _, _, _ => rfl
  | p :: ps, x, k, j => by cases p <;> simp [encVals, encVals_len ps]


theorem outA_rel {rd : Nat → Nat → Option Value} {I : Nat → Prop} {β : Nat → Option Place} : ∀ (ps : List PK) (x : tysP ps) (k j : Nat) (vs : List Value), RelL rd I β (encVals ps x k j) vs → ∃ ws, ∀ (rd' : Nat → Nat → Option Value) (I' : Nat → Prop) (β' : Nat → Option Place) (og : List Nat), og.length = cntK ps →
      (∀ (i b : Nat), og[i]? = some b → β' b = β (k + i)) → RelL rd' I' β' (outA ps og) ws
  | [], _, _, _, _, _ => ⟨[], fun _ _ _ og _ _ => by cases og <;> simp [outA, RelL]⟩
  | p :: ps, x, k, j, vs, h => by
    cases p <;> simp only [encVals, RelL] at h <;> obtain ⟨v, vs', rfl, h1, h2⟩ := h <;> obtain ⟨ws, hw⟩ := outA_rel ps x.2 _ _ vs' h2
    case box f =>
      refine ⟨v :: ws, fun rd' I' β' og hl hog => ?_⟩
      cases og with
      | nil => simp [cntK] at hl
      | cons b og =>
        simp only [outA, RelL]
        refine ⟨v, ws, rfl, ?_, hw rd' I' β' og (by simpa [cntK] using hl) fun i b' hb => by rw [Nat.add_assoc, Nat.add_comm 1 i]; exact hog (i + 1) b' (by simpa using hb)⟩
        simp only [RelV] at h1 ⊢
        rw [hog 0 b rfl]; exact h1
    case row e =>
      refine ⟨v :: ws, fun rd' I' β' og hl hog => ?_⟩
      cases og with
      | nil => simp [cntK] at hl
      | cons b og =>
        simp only [outA, RelL]
        refine ⟨v, ws, rfl, ?_, hw rd' I' β' og (by simpa [cntK] using hl) fun i b' hb => by rw [Nat.add_assoc, Nat.add_comm 1 i]; exact hog (i + 1) b' (by simpa using hb)⟩
        simp only [RelV] at h1 ⊢
        rw [hog 0 b rfl]; exact h1
    case mp t =>
      refine ⟨v :: ws, fun rd' I' β' og hl hog => ?_⟩
      cases og with
      | nil => simp [cntK] at hl
      | cons b og =>
        simp only [outA, RelL]
        refine ⟨v, ws, rfl, ?_, hw rd' I' β' og (by simpa [cntK] using hl) fun i b' hb => by rw [Nat.add_assoc, Nat.add_comm 1 i]; exact hog (i + 1) b' (by simpa using hb)⟩
        simp only [RelV] at h1 ⊢
        rw [hog 0 b rfl]; exact h1
    all_goals exact ⟨ws, fun rd' I' β' og hl hog => by cases og <;> exact hw rd' I' β' _ (by simpa [cntK] using hl) hog⟩
theorem outA_row : ∀ (ps : List PK) (og : List Nat), og.length = cntK ps → ∀ (i : Nat) x, (outA ps og)[i]? = some x → ∃ b, og[i]? = some b ∧ x.row = some b
  | [], og, _, i, x, h => by cases og <;> simp [outA] at h
  | p :: ps, og, hl, i, x, h => by
    cases p
    case box f => cases og with
      | nil => simp [cntK] at hl
      | cons b og => cases i with
        | zero => simp [outA] at h; subst h; exact ⟨b, rfl, rfl⟩
        | succ i => simpa using outA_row ps og (by simpa [cntK] using hl) i x (by simpa [outA] using h)
    case row f => cases og with
      | nil => simp [cntK] at hl
      | cons b og => cases i with
        | zero => simp [outA] at h; subst h; exact ⟨b, rfl, rfl⟩
        | succ i => simpa using outA_row ps og (by simpa [cntK] using hl) i x (by simpa [outA] using h)
    case mp f => cases og with
      | nil => simp [cntK] at hl
      | cons b og => cases i with
        | zero => simp [outA] at h; subst h; exact ⟨b, rfl, rfl⟩
        | succ i => simpa using outA_row ps og (by simpa [cntK] using hl) i x (by simpa [outA] using h)
    all_goals exact outA_row ps og (by simpa [cntK] using hl) i x (by cases og <;> exact h)

theorem ops_refs {H : Heap} {V : List AV} : ∀ (ps : List PK) (azs : List AV) (x : tysO ps) (s t : List AV) (m : List Nat), decArgs H V (opsOf ps) azs = some (x, s, t, m) → s = azs
  | [], azs, x, s, t, m, h => by cases azs <;> simp [decArgs, opsOf] at h; exact h.1
  | p :: ps, azs, x, s, t, m, h => by
    cases p
    case box f =>
      cases azs with
      | nil => simp [opsOf, decArgs] at h
      | cons a azs =>
        cases a <;> (try simp [opsOf, decArgs] at h; done)
        rename_i b i k
        cases i with
        | succ i => simp [opsOf, decArgs] at h
        | zero => cases k with
          | succ k => simp [opsOf, decArgs] at h
          | zero =>
            simp only [opsOf, decArgs] at h
            split at h
            · split at h
              · split at h
                · rename_i hr; cases h; rw [ops_refs ps azs _ _ _ _ hr]
                · cases h
              · cases h
            · cases h
    case row e =>
      cases azs with
      | nil => simp [opsOf, decArgs] at h
      | cons a azs =>
        simp only [opsOf, decArgs] at h
        split at h
        · split at h
          · rename_i hr; cases h; rw [ops_refs ps azs _ _ _ _ hr]
          · cases h
        · cases h
    case mp t0 =>
      cases azs with
      | nil => simp [opsOf, decArgs] at h
      | cons a azs =>
        cases a <;> (try simp [opsOf, decArgs] at h; done)
        simp only [opsOf, decArgs] at h
        split at h
        · split at h
          · split at h
            · rename_i hr; cases h; rw [ops_refs ps azs _ _ _ _ hr]
            · cases h
          · cases h
        · cases h
    all_goals exact ops_refs ps azs x s t m h
theorem lift_outs : ∀ (ps : List PK) (og : List Nat) (H : Heap), (lift (opsOf ps) (outA ps og) H).1 = outA ps og
  | [], og, H => by cases og <;> rfl
  | p :: ps, og, H => by
    cases p
    case box f => cases og with
      | nil => rfl
      | cons b og => simp only [opsOf, outA, lift]; rw [lift_outs ps og]
    case row e => cases og with
      | nil => rfl
      | cons b og => simp only [opsOf, outA, lift, lift1]; rw [lift_outs ps og]
    case mp t => cases og with
      | nil => rfl
      | cons b og => simp only [opsOf, outA, lift]; rw [lift_outs ps og]
    all_goals exact (by cases og <;> exact lift_outs ps _ H)

section
variable {V : Env} {E : Tab}


def resS (tmps : Array Value) : ResultVar → Sem Value
  | .tmp t => pure (tmps.getD t undef)
  | .cell c t => do loadVar t (← asAddr (tmps.getD c undef))

theorem results_eq (fn : Func) (tmps : Array Value) : results fn tmps = (do let vs ← fn.results.mapM (resS tmps); pure (if h : vs.size = 1 then vs[0] else .tuple vs)) := by
  unfold results
  congr 1

theorem resQ_ok (hE : TabOK V E) {Γ : Base} {st : St} {a : Act} {w : World} {β : Nat → Option Place} (hs : SimB Γ st a w β) {r : ResultVar} {x : AV} (h : resQ E st r = some x) :
    ∃ v, (resS a.tmps r).run V.P w = .ok v w ∧ RelV (rdW w) (Γ.after w β st.heap) β x v := by
  cases r with
  | tmp t =>
    simp only [resQ] at h
    obtain ⟨v, h1, h2⟩ := hs.tmps t x h
    refine ⟨v, ?_, h2⟩
    simp [resS, Array.getD_eq_getD_getElem?, h1]
  | cell c t =>
    simp only [resQ] at h
    split at h
    · rename_i i l k ht hat
      split at h
      · rename_i hth
        obtain ⟨B, o', us, hv, hl, hrd, hrel, hpl⟩ := at_ok hs (ev_ok hs (.tmp c)) hat hth
        obtain ⟨v, hv', _, hsh⟩ := partA_ok (hE.ti _ _ ht) h hrel hpl
        refine ⟨v, ?_, hv'⟩
        have hv0 : a.tmps.getD c undef = .pointer (some ⟨B, o' + k, none⟩) := hv
        unfold resS
        simp only [hv0]
        have hsz := (hE.ti _ _ ht)
        unfold loadVar
        simp only [asAddr, pure_bind, Sem.run_bind, hsz.run_agg, Result.andThen_ok]
        split at hsh
        · rename_i ha
          obtain ⟨hle, rfl⟩ := hsh
          rw [if_pos ha]
          simp only [Sem.run_bind, hsz.run_size, Result.andThen_ok]
          have hlen : ((us.drop k).take i.size).length = i.size := by simp; omega
          rw [show i.size = ((us.drop k).take i.size).length from hlen.symm, run_loadCells_list w ⟨B, o' + k, none⟩ ((us.drop k).take i.size) fun j u hu => ?_]
          · simp
          · rw [add_plain]
            rw [List.getElem?_take] at hu
            split at hu
            · rw [List.getElem?_drop] at hu
              have hkj : k + j < us.length := (List.getElem?_eq_some_iff.1 hu).1
              have := hrd (k + j) (by omega)
              rw [hu] at this
              rw [Nat.add_assoc]
              exact rdW_cell this (hpl _ (List.mem_of_getElem? hu))
            · cases hu
        · rename_i ha
          rw [if_neg ha]
          have hk : k < us.length := (List.getElem?_eq_some_iff.1 hsh).1
          have := hrd k (by omega)
          rw [hsh] at this
          have := rdW_cell this (hpl _ (List.mem_of_getElem? hsh))
          simp [this]
      · cases h
    · cases h

theorem resL_ok (hE : TabOK V E) {Γ : Base} {st : St} {a : Act} {w : World} {β : Nat → Option Place} (hs : SimB Γ st a w β) : ∀ (rs : List ResultVar) (azs : List AV), resL E st rs = some azs →
    ∃ vs : List Value, (rs.mapM (m := Sem) (resS a.tmps)).run V.P w = .ok vs w ∧ RelL (rdW w) (Γ.after w β st.heap) β azs vs
  | [], azs, h => by cases h; exact ⟨[], rfl, by simp [RelL]⟩
  | r :: rs, azs, h => by
    simp only [resL] at h
    split at h
    · rename_i x hx
      split at h
      · rename_i l hl
        cases h
        obtain ⟨v, h1, h2⟩ := resQ_ok hE hs hx
        obtain ⟨vs, h3, h4⟩ := resL_ok hE hs rs l hl
        refine ⟨v :: vs, ?_, by simp only [RelL]; exact ⟨v, vs, rfl, h2, h4⟩⟩
        rw [List.mapM_cons]
        simp only [Sem.run_bind, h1, Result.andThen_ok, h3, Sem.run_pure]
      · cases h
    · cases h

theorem results_run {fn : Func} {a : Act} {w : World} {vs : List Value} (h : (fn.results.toList.mapM (m := Sem) (resS a.tmps)).run V.P w = .ok vs w) : (results fn a.tmps).run V.P w = .ok (valOf vs) w := by
  rw [results_eq, Sem.run_bind, Array.mapM_eq_mapM_toList, Sem.run_map, h]
  cases vs with
  | nil => rfl
  | cons v vs => cases vs <;> rfl

theorem rdW_none {w : World} {r : Nat} {o : Obj} (hr : w.heap[r]? = some o) (h : ∀ cs ty fr, o ≠ .cells cs ty fr) (h' : ∀ es c, o ≠ .map es c) (i : Nat) : rdW w r i = none := by
  unfold rdW World.cell?
  rw [hr]
  cases o <;> simp at h h' ⊢


theorem simB_obj {Γ : Base} {st : St} {a : Act} {w w' : World} {β : Nat → Option Place} (h : SimB Γ st a w β) {r : Nat} (hr : ∀ o, w.heap[r]? = some o → (∀ cs ty fr, o ≠ .cells cs ty fr) ∧ ∀ es c, o ≠ .map es c) (hΓ : Γ.w.heap.size ≤ r)
    (h1 : w'.os = w.os) (h2 : w'.tape = w.tape) (h3 : w'.output = w.output) (h4 : w.heap.size ≤ w'.heap.size) (h5 : ∀ B, B < w.heap.size → B ≠ r → w'.heap[B]? = w.heap[B]?) {ds : List Deferred} (hds : Marks Γ w' ds) : SimB Γ st { a with defers := ds } w' β := by
  have hl : ∀ B, live st.heap β B → B < w.heap.size ∧ B ≠ r := by
    rintro B ⟨b, r0, p, hb, hp, hk, rfl⟩
    obtain ⟨q, hq, hg, hrow⟩ := h.ctx.rows b r0 hb
    rw [hp] at hq; cases hq
    refine ⟨(hg hk).2, fun e => ?_⟩
    obtain ⟨o, ho⟩ : ∃ o, w.heap[p.B]? = some o := ⟨_, Array.getElem?_eq_getElem (hg hk).2⟩
    obtain ⟨n1, n2⟩ := hr o (e ▸ ho)
    cases r0 with
    | typed e l => obtain ⟨_, _, _, h⟩ := hrow; obtain ⟨cs, ty, h, _⟩ := h hk; rw [h] at ho; cases ho; exact n1 _ _ _ rfl
    | cells l => obtain ⟨_, _, _, cs, ty, h, _⟩ := hrow; rw [h] at ho; cases ho; exact n1 _ _ _ rfl
    | mapr t l => obtain ⟨_, es, c, h, _⟩ := hrow; rw [h] at ho; cases ho; exact n2 _ _ rfl
  have hm : Mono (rdW w) (Γ.after w β st.heap) (rdW w') (Γ.after w' β st.heap) := by
    refine ⟨fun B hB => ⟨Nat.lt_of_lt_of_le hB.1 h4, hB.2.1, hB.2.2⟩, fun B hB o v hv => ?_⟩
    by_cases e : B = r
    · subst e
      obtain ⟨x, hx⟩ : ∃ x, w.heap[B]? = some x := ⟨_, Array.getElem?_eq_getElem hB.1⟩
      rw [rdW_none hx (hr x hx).1 (hr x hx).2] at hv; cases hv
    · rw [rdW_congr (h5 B hB.1 e)]; exact hv
  have hrows : ∀ (b : Nat) r0 p, st.heap[b]? = some (some r0) → β b = some p → p.backed = true → w'.heap[p.B]? = w.heap[p.B]? := fun b r0 p hb hp hk => by
    obtain ⟨e1, e2⟩ := hl p.B ⟨b, r0, p, hb, hp, hk, rfl⟩
    exact h5 _ e1 e2
  refine ⟨⟨fun b r0 hb => ?_, h.ctx.apart, fun B hB => ⟨hB.1, hB.2.2⟩, h.ctx.dom⟩, ⟨h1.trans h.frm.os, h2.trans h.frm.tape, h3.trans h.frm.output, Nat.le_trans h.frm.size h4, fun B hB hn => ?_⟩, h.len, fun t x hx => ?_, hds, fun j b hb => ?_, h.gbw, h.low, h.own⟩
  · obtain ⟨p, hp, hg, hr⟩ := h.ctx.rows b r0 hb
    exact ⟨p, hp, fun hk => ⟨(hg hk).1, Nat.lt_of_lt_of_le (hg hk).2 h4⟩, rowRel_mono hm (fun _ _ h => h) (hrows b r0 p hb hp) r0 hr⟩
  · rw [h5 B (Nat.lt_of_lt_of_le hB h.frm.size) (by omega)]; exact h.frm.block B hB hn
  · obtain ⟨v, hv, hr⟩ := h.tmps t x hx
    exact ⟨v, hv, relV_mono hm (fun _ _ h => h) x v hr⟩
  · obtain ⟨c1, c2, c3⟩ := h.orig j b hb
    exact ⟨c1, c2, fun r0 p hr0 hp hk => (c3 r0 p hr0 hp hk).congr (hrows b r0 p hr0 hp hk)⟩


theorem start_ok {gb : Nat} {w : World} {I : Nat → Prop} {β : Nat → Option Place} {H : Heap} (hctx : Ctx gb w I β H) (hgb : gb ≤ w.heap.size) {tmps : List AV} {ts : Array Value} (hl : tmps.length = ts.size) (ht : ∀ (t : Nat) x, tmps[t]? = some x → ∃ v, ts[t]? = some v ∧ RelV (rdW w) I β x v) {K : Nat} (hK : K ≤ H.length) :
    SimB ⟨gb, w, I, β, H⟩ ⟨tmps, H, List.range K⟩ { tmps := ts, defers := [] } w β := by
  have hm : Mono (rdW w) I (rdW w) (Base.after ⟨gb, w, I, β, H⟩ w β H) := ⟨fun B hB => ⟨(hctx.imm B hB).1, .inl hB, (hctx.imm B hB).2⟩, fun _ _ _ _ h => h⟩
  refine ⟨⟨fun i r hr => ?_, hctx.apart, fun B hB => ⟨hB.1, hB.2.2⟩, hctx.dom⟩, ⟨rfl, rfl, rfl, Nat.le_refl _, fun _ _ _ => rfl⟩, hl, fun t z hz => ?_, ⟨List.nodup_nil, by simp⟩, fun j b hj => ?_, hgb, fun B hB => ?_, fun b r p hb hp hk => ?_⟩
  · obtain ⟨p, hp, h1, h2⟩ := hctx.rows i r hr
    exact ⟨p, hp, h1, rowRel_mono hm (fun _ _ h => h) (fun _ => rfl) r h2⟩
  · obtain ⟨v, hv, hr⟩ := ht t z hz
    exact ⟨v, hv, relV_mono hm (fun _ _ h => h) _ _ hr⟩
  · obtain ⟨hlt, e⟩ := List.getElem?_eq_some_iff.1 hj
    simp only [List.length_range] at hlt
    rw [List.getElem_range] at e
    subst e
    refine ⟨rfl, by show j < H.length; omega, fun r p hr hp hk => ?_⟩
    obtain ⟨p', hp', _, hrr⟩ := hctx.rows j r hr
    rw [hp] at hp'; cases hp'
    cases r with
    | typed e l =>
      obtain ⟨_, _, _, h4⟩ := hrr
      obtain ⟨cs, ty, g1, _⟩ := h4 hk
      exact .inr ⟨cs, cs, ty, g1, g1, rfl, fun _ _ => rfl⟩
    | cells l =>
      obtain ⟨_, _, _, cs, ty, g1, _⟩ := hrr
      exact .inr ⟨cs, cs, ty, g1, g1, rfl, fun _ _ => rfl⟩
    | mapr t l =>
      obtain ⟨_, es, c, g1, _⟩ := hrr
      exact .inl ⟨es, c, es, c, g1, g1⟩
  · obtain ⟨b, r, p, hb, hp, hk, rfl⟩ := hB
    obtain ⟨p', hp', h1, _⟩ := hctx.rows b r hb
    have hp2 : β b = some p := hp
    rw [hp2] at hp'; cases hp'
    exact (h1 hk).1
  · exact .inr ⟨b, r, p, hb, hp, hk, rfl⟩


theorem fin_ok (hE : TabOK V E) {w : World} {I : Nat → Prop} {β : Nat → Option Place} {ps rk : List PK} {x : tysP ps} {y : tysP rk} {o : tysO ps} {vs : Array Value} (hvs : RelL (rdW w) I β (encVals ps x 0 (cntK ps)) vs.toList) {rs : List ResultVar} {st' : St} {a' : Act} {w' : World} {β' : Nat → Option Place}
    (hs' : SimB ⟨V.gb, w, I, β, rowsIn ps x⟩ st' a' w' β') (hfin : finQ E rs ps rk st' = some (y, o)) :
    ∃ (us : List Value) (I' : Nat → Prop) (β1 : Nat → Option Place), (rs.mapM (m := Sem) (resS a'.tmps)).run V.P w' = .ok us w' ∧ FrmC w w' (live (rowsIn ps x) β) ∧ OutOK w w' V.gb I β (rowsIn ps x) (rowsOut ps rk o y) (cntK ps) I' β1 ∧ RelL (rdW w') I' β1 (valsOut ps rk y) us := by
  let Γ : Base := ⟨V.gb, w, I, β, rowsIn ps x⟩
  have hs' : SimB Γ st' a' w' β' := hs'
  unfold finQ at hfin
  split at hfin
  case h_2 => cases hfin
  rename_i azs has
  obtain ⟨rvs, hrun, hrel⟩ := resL_ok hE hs' _ _ has
  split at hfin
  case isFalse => cases hfin
  rename_i hog
  simp only [lift_outs] at hfin
  obtain ⟨ws, hws⟩ := outA_rel ps x 0 (cntK ps) vs.toList hvs
  have hou : RelL (rdW w') (Γ.after w' β' st'.heap) β' (outA ps st'.orig) ws := hws _ _ β' st'.orig hog fun i b hb => by
    rw [(hs'.orig i b hb).1, Nat.zero_add]
  obtain ⟨βa, La, ha⟩ := lift_ok (opsOf ps) _ _ hs' hou
  obtain ⟨H1, eH1⟩ : ∃ H1, H1 = (lift (opsOf ps) (outA ps st'.orig) st'.heap).2 := ⟨_, rfl⟩
  rw [lift_outs] at ha
  rw [← eH1] at La ha hfin
  obtain ⟨βb, Lb, hb'⟩ := lift_ok rk _ _ La.sim (relL_mono La.mono La.sub _ _ hrel)
  have ha := relL_mono Lb.mono Lb.sub _ _ ha
  obtain ⟨H2, eH2⟩ : ∃ H2, H2 = (lift rk azs H1).2 := ⟨_, rfl⟩
  simp only [← eH2] at Lb ha hb' hfin
  have hs2 := Lb.sim
  split at hfin
  case h_2 => cases hfin
  rename_i o' s1 t1 m1 y' s2 t2 m2 hd1 hd2
  split at hfin
  case isFalse => cases hfin
  rename_i hc
  cases hfin
  simp only [Bool.and_eq_true] at hc
  obtain ⟨⟨hnd, hdj⟩, hwh⟩ := hc
  obtain ⟨zs1, zt1, D1⟩ := decArgs_ok hs2.ctx [] (opsOf ps) _ _ o s1 t1 m1 ha hd1
  obtain ⟨zs2, zt2, D2⟩ := decArgs_ok hs2.ctx _ rk _ _ y s2 t2 m2 hb' hd2
  have es1 := ops_refs ps _ _ _ _ _ hd1
  obtain ⟨Z, hZ⟩ : ∃ Z, Z = (zs1 ++ zt1) ++ (zs2 ++ zt2) := ⟨_, rfl⟩
  have hids : idsOf (Z.map (·.1)) = idsOf ((s1 ++ t1) ++ (s2 ++ t2)) := by rw [hZ]; simp only [List.map_append]; rw [← D1.s_eq, ← D1.t_eq, ← D2.s_eq, ← D2.t_eq]
  have hrZ : ∀ z ∈ Z, RefOK βb H2 z := fun z hz => by
    rw [hZ] at hz
    exact (List.mem_append.1 hz).elim (fun h => (List.mem_append.1 h).elim (D1.refs z) (D1.reft z)) fun h => (List.mem_append.1 h).elim (D2.refs z) (D2.reft z)
  have hl1 : zs1.length = cntK ps := by rw [D1.lenK, cntK_ops]
  have hl2 : (zs1 ++ zt1).length = cntO ps := by rw [List.length_append, hl1, D1.lenN]; rfl
  have hkeep : ∀ i, i < cntK ps → ∃ z b p r0, zs1[i]? = some z ∧ st'.orig[i]? = some b ∧ H2[b]? = some (some r0) ∧ βb b = some p ∧ z.2.1 = p ∧ z.1.row = some b ∧ (outA ps st'.orig)[i]? = some z.1 := by
    intro i hi
    have hz : zs1[i]? = some zs1[i] := List.getElem?_eq_getElem (by omega)
    obtain ⟨b, p, r0, c1, c2, c3, c4, c5, c6, _⟩ := D1.refs _ (List.mem_of_getElem? hz)
    have hz1 : s1[i]? = some zs1[i].1 := by rw [D1.s_eq, List.getElem?_map, hz]; rfl
    have hw : zs1[i].1.whole = true := List.all_eq_true.1 hwh _ (List.mem_of_getElem? hz1)
    rw [es1] at hz1
    obtain ⟨b', d1, d2⟩ := outA_row ps _ hog i _ hz1
    rw [c1] at d2; cases d2
    exact ⟨_, b, p, r0, hz, d1, c2, c3, c6 hw, c1, hz1⟩
  let I' := withRows (Γ.after w' βb H2) βb (m1 ++ m2)
  have hmI : ∀ (ma : List Nat), (∀ b ∈ ma, b ∈ m1 ++ m2) → Mono (rdW w') (withRows (Γ.after w' βb H2) βb ma) (rdW w') I' := fun ma h => withRows_mono _ _ h _
  obtain ⟨v1, v2, v3⟩ := D1.vals I' (plcZ Z) 0 (cntK ps) (hmI m1 (fun b h => List.mem_append.2 (.inl h))) (by rw [hZ, List.append_assoc]; exact plcZ_at [] zs1 _) (by rw [hZ, List.append_assoc, ← hl1]; exact plcZ_at zs1 zt1 _) (fun i b p h => by simp at h)
  obtain ⟨u1, u2, u3⟩ := D2.vals I' (plcZ Z) (cntO ps) (cntO ps + cntK rk) (hmI m2 (fun b h => List.mem_append.2 (.inr h))) (by rw [hZ, ← hl2]; exact plcZ_at _ zs2 zt2) (by
      have := plcZ_at ((zs1 ++ zt1) ++ zs2) zt2 []
      rw [List.append_nil, List.length_append, hl2, D2.lenK] at this
      rw [hZ, ← List.append_assoc]; exact this) (fun i b p h hp => by
    have hi : i < cntK ps := by
      obtain ⟨b', d1, _⟩ := outA_row ps _ hog i _ h
      rw [← hog]; exact (List.getElem?_eq_some_iff.1 d1).1
    obtain ⟨z, b', p', r0, e1, e2, e3, e4, e5, e6, e7⟩ := hkeep i hi
    rw [h] at e7
    rw [← Option.some.inj e7] at e6
    cases e6
    rw [hp] at e4; cases e4
    rw [hZ, List.append_assoc]
    simp only [plcZ]
    rw [List.getElem?_append_left (by omega), e1, Option.map_some, e5])
  have hrows := rowsAt_app (by rw [List.length_append, rowsK_len, rowsN_len, cntK_ops, hl2]; rfl) (rowsAt_app (by rw [rowsK_len, cntK_ops, hl1]) v2 v3) (rowsAt_app (by rw [rowsK_len, D2.lenK]) u2 u3)
  rw [← hZ] at hrows
  have hctx2 := dec_ctx hs2 (Z := Z) (m := m1 ++ m2) (rows := rowsOut ps rk o y) hrZ (by rw [hids]; exact hnd) (by rw [hids]; exact disj_ok hdj) (fun b hb => (List.mem_append.1 hb).elim (D1.alive b) (D2.alive b))
    (by rw [rowsOut_len, hZ, List.length_append, hl2, List.length_append, D2.lenK, D2.lenN]) hrows
  refine ⟨rvs, I', plcZ Z, hrun, ⟨hs'.frm.os, hs'.frm.tape, hs'.frm.output, hs'.frm.size, hs'.frm.block⟩, ⟨hctx2, fun B hB => ?_, fun i r q hi hq hk => ?_, fun i hi => ?_⟩, u1⟩
  · rcases hB with hB | ⟨b, hb, p, hp, hk, rfl⟩
    · exact hB.2.1
    · obtain ⟨r, hr⟩ := (List.mem_append.1 hb).elim (D1.alive b) (D2.alive b)
      exact (hs2.own b r p hr hp hk).elim (fun h => .inr (.inr h)) fun h => .inr (.inl h)
  · have hi' := (List.getElem?_eq_some_iff.1 hi).1
    obtain ⟨z, hz⟩ : ∃ z, Z[i]? = some z := by
      cases hh : Z[i]? with
      | none => simp [plcZ, hh] at hq
      | some z => exact ⟨z, rfl⟩
    obtain ⟨b, p, r0, c1, c2, c3, c4, c5, _⟩ := hrZ z (List.mem_of_getElem? hz)
    simp only [plcZ, hz, Option.map_some, Option.some.injEq] at hq
    subst hq
    rw [c4]
    exact (hs2.own b r0 p c2 c3 (c5 ▸ hk)).symm
  · obtain ⟨z, b, p, r0, e1, e2, e3, e4, e5, e6, e7⟩ := hkeep i hi
    obtain ⟨c1, c2, c3⟩ := hs2.orig i b e2
    have hpz : plcZ Z i = some p := by
      rw [hZ, List.append_assoc]
      simp only [plcZ]
      rw [List.getElem?_append_left (by omega), e1, Option.map_some, e5]
    rw [e4] at c1
    exact ⟨hpz.trans c1, fun p' hp' hk => by
      have : Γ.β i = some p' := hp'
      rw [← c1] at this; cases this
      exact c3 r0 p e3 e4 hk⟩


theorem fn_ok (hE : TabOK V E) {k : FuncId} {fn : Func} {c : Code} (hf : V.P.funcs[k]? = some fn) (hb : fn.body = some c) {ps rk : List PK} (hn : ps.length ≤ fn.ntmps)
    (hl : ∀ Γ : Base, Γ.gb = V.gb → V.G Γ.w → ∀ a ∈ loopsOf c, ∀ L, E.lp (keyOf a) = some L → Sound V Γ none a fun ρ => L.f ρ)
    {x : tysP ps} {y : tysP rk} {o : tysO ps} (h : fnRun E fn.ntmps fn.results.toList c ps rk x = some (y, o)) : CallOK V k ps rk x y o := by
  intro w I β vs hG hgb hctx hvs
  have hvl := relL_len _ _ hvs
  rw [encVals_len] at hvl
  have hvl' : vs.size = ps.length := by rw [← Array.length_toList]; exact hvl
  have hsim : SimB ⟨V.gb, w, I, β, rowsIn ps x⟩ (st0 fn.ntmps ps x) { tmps := vs ++ Array.replicate (fn.ntmps - vs.size) undef, defers := [] } w β :=
    start_ok hctx hgb (by simp [encVals_len, hvl']) (fun t z hz => by
      rw [List.getElem?_append] at hz
      split at hz
      · rename_i hlt
        obtain ⟨v, hv, hr⟩ := relL_get _ _ hvs t z hz
        refine ⟨v, ?_, hr⟩
        rw [encVals_len] at hlt
        rw [Array.getElem?_append_left (by omega), ← Array.getElem?_toList]; exact hv
      · rename_i hge
        rw [encVals_len] at hge hz
        simp only [List.getElem?_replicate] at hz
        split at hz
        · cases hz
          refine ⟨undef, ?_, by simp [RelV]⟩
          rw [Array.getElem?_append_right (by omega), Array.getElem?_replicate, if_pos (by omega)]
        · cases hz) (by rw [rowsIn_len]; omega)
  refine (callsIn_wide (n := 0)).1 (callsIn_of_wp_marks hf hb trivial (run_ok (Γ := ⟨V.gb, w, I, β, rowsIn ps x⟩) (ro := none) hE rfl hG c (hl _ rfl hG) _ _ _ _ h _ w ⟨β, hsim⟩ _ fun ex st' a' w' hs' h' => ?_))
  have hfin : finQ E fn.results.toList ps rk st' = some (y, o) ∧ ((ex.toExit = .normal) ∨ ex.toExit = .ret) := by
    cases ex with
    | normal => exact ⟨h', .inl rfl⟩
    | exit id => cases h'
    | ret => exact ⟨h', .inr rfl⟩
  obtain ⟨hfin, hex⟩ := hfin
  obtain ⟨β', hs'⟩ := hs'
  have main : ∀ (ds : List Deferred) (w' : World), SimB ⟨V.gb, w, I, β, rowsIn ps x⟩ st' { tmps := a'.tmps, defers := ds } w' β' →
      LeavesInM Fence.wide 0 V.P fn a'.tmps (fun e w' => ∃ (us : List Value) (I' : Nat → Prop) (β' : Nat → Option Place), e = .returned (valOf us) ∧ FrmC w w' (live (rowsIn ps x) β) ∧ OutOK w w' V.gb I β (rowsIn ps x) (rowsOut ps rk o y) (cntK ps) I' β' ∧ RelL (rdW w') I' β' (valsOut ps rk y) us) ds .returning w' := by
    intro ds
    induction ds with
    | nil =>
      intro w' hs'
      obtain ⟨us, I', β1, g1, g2, g3, g4⟩ := fin_ok hE hvs hs' hfin
      exact ⟨_, results_run g1, us, I', β1, rfl, g2, g3, g4⟩
    | cons d ds ih =>
      intro w' hs'
      refine ⟨by simp, .inl ?_⟩
      obtain ⟨hnd, hD⟩ := hs'.defers
      simp only at hnd hD
      obtain ⟨D, rfl, hge, hobj⟩ := hD d (by simp)
      refine ⟨D, w'.putObj D (.deferred none), rfl, run_takeDeferred hobj, ih _ (simB_obj (w' := w'.putObj D (.deferred none)) hs' (r := D) (fun o ho => by rw [hobj] at ho; cases ho; exact ⟨by simp, by simp⟩) hge rfl rfl rfl (by simp) (fun B _ hne => World.putObj_heap_other hne) ⟨(List.nodup_cons.1 hnd).2, fun d' hd' => ?_⟩)⟩
      obtain ⟨D', e1, e2, e3⟩ := hD d' (by simp [hd'])
      refine ⟨D', e1, e2, ?_⟩
      have hne : D' ≠ D := fun e => (List.nodup_cons.1 hnd).1 (by subst e; rw [← e1]; exact hd')
      rw [World.putObj_heap_other hne]; exact e3
  rcases hex with hex | hex <;> rw [hex] <;> exact main _ _ hs'
end
end Go.AM
end
section
namespace Go.AM

def sl : Code → Code
  | .seq a _ => a
  | c => c
def sr : Code → Code
  | .seq _ b => b
  | c => c
def bb : Code → Code
  | .block _ a => a
  | c => c
def lb : Code → Code
  | .loop a => a
  | c => c
def rb : Code → Code
  | .rangeFunc _ _ _ b => b
  | c => c
def fb (f : Func) : Code := f.body.getD .skip

theorem tok_of {P : Program} {t : TypeId} {i : TI} {d : TypeDesc} {j : TypeInfo} (hu : P.underlying t = some d) (hj : P.types[t]? = some j) (h1 : tdOf d = i.d) (h2 : j.size = i.size) (h3 : j.bytes = i.bytes) (h4 : ∀ g, i.gt = some g → j.zero = some (zeroVal g) ∧ g.cells = i.size ∧ g.isAgg = i.d.agg) : TOk P t i := by
  have hi : P.info? t = some j := by
    show P.toTables.info? t = some j
    unfold Tables.info?
    rw [if_pos (Array.getElem?_eq_some_iff.1 hj).1]; exact hj
  exact ⟨by rw [hu, ← h1]; rfl, by rw [hi, ← h2, ← h3]; rfl, fun g hg => ⟨by rw [hi, ← (h4 g hg).1]; rfl, (h4 g hg).2⟩⟩

section
variable {V : Env} {Γ : Base} {E : Tab} {ro : Option Nat}

def TiAll (P : Program) (l : List (Nat × TI)) : Prop := ∀ t i, look l t = some i → TOk P t i
theorem tiNil {P : Program} : TiAll P [] := fun t i h => by cases h
theorem tiCons {P : Program} {t : Nat} {i : TI} {l : List (Nat × TI)} (h : TOk P t i) (k : TiAll P l) : TiAll P ((t, i) :: l) := fun t' i' h' => by
  simp only [look] at h'
  split at h'
  · rename_i e; subst e; cases h'; exact h
  · exact k t' i' h'

def FnAll (V : Env) (l : List (Nat × Option Nat × Callee)) : Prop := ∀ k azs c, lookC l k azs = some c → Good V k c
theorem fnNil : FnAll V [] := fun t i c h => by cases h
theorem fnCons {k : Nat} {s : Option Nat} {c : Callee} {l : List (Nat × Option Nat × Callee)} (h : Good V k c) (r : FnAll V l) : FnAll V ((k, s, c) :: l) := fun k' azs c' h' => by
  simp only [lookC] at h'
  split at h'
  · rename_i e; obtain ⟨rfl, _⟩ := e; cases h'; exact h
  · exact r k' azs c' h'

def LpAll (V : Env) (Γ : Base) (ro : Option Nat) (E : Tab) (l : List Code) : Prop := ∀ a ∈ l, ∀ L, E.lp (keyOf a) = some L → Sound V Γ ro a fun ρ => L.f ρ
def BkAll (P : Program) (l : List (Nat × Nat)) : Prop := ∀ k kb, look l k = some kb → BackCall P k kb
theorem bkNil {P : Program} : BkAll P [] := fun t i h => by cases h
theorem bkCons {P : Program} {k kb : Nat} {l : List (Nat × Nat)} (h : BackCall P k kb) (r : BkAll P l) : BkAll P ((k, kb) :: l) := fun k' c' h' => by
  simp only [look] at h'
  split at h'
  · rename_i e; subst e; cases h'; exact h
  · exact r k' c' h'

theorem good_none {k : FuncId} {C : Callee} (hen : ∃ fn, V.P.funcs[k]? = some fn ∧ (fn.name == "runtime.NumGoroutine") = false ∧ fn.body.isNone = false) (h : ∀ x, C.g x = none) : Good V k C := ⟨hen, fun x y o hx => by rw [h] at hx; cases hx⟩

theorem good_of {k : FuncId} {fn : Func} {c : Code} {C : Callee} (hE : TabOK V E) (hf : V.P.funcs[k]? = some fn) (hb : fn.body = some c) (hname : (fn.name == "runtime.NumGoroutine") = false) (hn : C.ps.length ≤ fn.ntmps)
    (hl : ∀ Γ : Base, Γ.gb = V.gb → V.G Γ.w → LpAll V Γ none E (loopsOf c)) (hr : ∀ x, fnRun E fn.ntmps fn.results.toList c C.ps C.rk x = C.g x) : Good V k C :=
  ⟨⟨fn, hf, hname, by rw [hb]; rfl⟩, fun x y o h => fn_ok hE hf hb hn hl (by rw [hr]; exact h)⟩
end
end Go.AM
end
section
namespace Go.AM
open Go.RowKit (Below)

def encI (kd : IntKind) (p : Int × Nat) : Array Value := #[.int .i64 p.2, .int kd p.1]
def KeepsTwo (Bs : Nat) (b : Option Nat) (W W' : World) : Prop := W.heap.size ≤ W'.heap.size ∧ W'.heap[Bs]? = W.heap[Bs]? ∧ ∀ k, b = some k → W'.heap[k]? = W.heap[k]?


def BackOK (P : Program) (kb : Nat) (kd : IntKind) : Prop := (∃ fn, P.funcs[kb]? = some fn ∧ (fn.name == "runtime.NumGoroutine") = false ∧ fn.body.isNone = false) ∧
  ∀ (Bs ob : Nat) (ad : Option Addr) (cap : Nat) (xs : List Int) (W : World) (l : Nat) (J : Nat → World → Prop), xs.length ≤ 2 ^ 40 → W.cell? ⟨Bs, ob, none⟩ = some (.slice ad xs.length cap) →
    (xs ≠ [] → ∃ b off, ad = some ⟨b, off, none⟩ ∧ ∀ (k : Nat) x, xs[k]? = some x → W.cell? ⟨b, off + k, none⟩ = some (.int kd x)) →
    (∀ (k : Nat) x W1, xs.zipIdx.reverse[k]? = some x → J k W1 → YieldAt Fence.wide 0 P l (encI kd x) W1 fun e W' => e = .returned (.bool true) ∧ J (k + 1) W' ∧ KeepsTwo Bs (ad.map (·.block)) W1 W') → J 0 W →
    CallsIn Fence.wide 0 P kb #[.func (.yield l) #[] #[], .pointer (some ⟨Bs, ob, none⟩)] W fun e W' => (∃ v, e = .returned v) ∧ J xs.length W'

def foldO {α β : Type} (f : α → β → Option β) : List α → β → Option β
  | [], y => some y
  | x :: l, y => (f x y).bind (foldO f l)
theorem foldO_split {α β : Type} {f : α → β → Option β} : ∀ (k : Nat) (l : List α) (y z : β) (x : α), foldO f l y = some z → l[k]? = some x → ∃ u v, foldO f (l.take k) y = some u ∧ f x u = some v ∧ foldO f (l.take (k + 1)) y = some v
  | 0, a :: l, y, z, x, h, hx => by
    simp at hx; subst hx
    obtain ⟨v, hv, _⟩ := bind_some' h
    exact ⟨y, v, rfl, hv, by simp [foldO, hv]⟩
  | k + 1, a :: l, y, z, x, h, hx => by
    obtain ⟨v, hv, h'⟩ := bind_some' h
    obtain ⟨u, w, h1, h2, h3⟩ := foldO_split k l v z x h' (by simpa using hx)
    exact ⟨u, w, by simp [foldO, hv, h1], h2, by simp only [List.take_succ_cons, foldO, hv, Option.bind_some]; exact h3⟩


def roundSt (A : Ann) (t1 t2 s d : Nat) (kd : IntKind) (v : Int) (i : Nat) (y : tysP A.ps) : St :=
  let l := ((encSt A y).tmps.set t1 (.int .i64 i)).set t2 (.int kd v)
  ⟨l.set d (l.getD s .any), rowsIn A.ps y, List.range (cntK A.ps)⟩
def roundRun (E : Tab) (A : Ann) (t1 t2 s d : Nat) (kd : IntKind) (body : Code) (v : Int) (i : Nat) (y : tysP A.ps) : Option (tysO A.ps) :=
  run E body (roundSt A t1 t2 s d kd v i y) fun ex st => match ex with
    | .normal => (finQ E [] A.ps [] st).bind fun r => some r.2
    | _ => none

def mergeRun (A : Ann) (y : tysP A.ps) (o : tysO A.ps) : Option (tysP A.ps) :=
  callE (rowsIn A.ps y) ⟨A.ps, [], fun _ => some ((), o)⟩ (encVals A.ps y 0 (cntK A.ps)) fun _ H => decSt A { encSt A y with heap := H }


def rangeF (A : Ann) (kb : Nat) (kd : IntKind) (g : Operand) (step : Int → Nat → tysP A.ps → Option (tysP A.ps)) (outs : tysP A.ps → tysO A.ps) : LoopO :=
  ⟨fun _ st K => match st.ev g with
    | .fn k [.ptr nb 0 0] => if k = kb then match st.heap[nb]? with
      | some (some (.cells [x])) => match decC st.heap (.sl (.int kd)) [x] with
        | some (xs, [], mx) => match decArgs (lift A.ps (A.slots.map fun t => st.tmps.getD t .any) st.heap).2 [] A.ps (lift A.ps (A.slots.map fun t => st.tmps.getD t .any) st.heap).1 with
          | some (_, s, t, _) => if disj (idsOf (s ++ t)) (nb :: mx) = true ∧ st.tmps.length = A.n then
              grd (decide ((xs : List Int).length ≤ maxN)) (callE st.heap ⟨A.ps, [], fun y => (foldO (fun p y => step p.1 p.2 y) (xs : List Int).zipIdx.reverse y).bind fun y' => some ((), outs y')⟩ (A.slots.map fun t => st.tmps.getD t .any) fun _ H => K .normal { st with heap := H })
            else none
          | none => none
        | _ => none
      | _ => none
      else none
    | _ => none⟩

theorem grd_some' {ρ : Type} {b : Bool} {x : Option ρ} {z : ρ} (h : grd b x = some z) : b = true ∧ x = some z := by cases b <;> simp [grd] at h ⊢; exact h

section
variable {V : Env} {Γ : Base} {ro : Option Nat}

theorem assign_wp {P : Program} {ro : Option Nat} {id s d : Nat} {o : Oper} (ho : o.op = .assign (.tmp s)) (hd : o.dst = some d) (hg : o.guard = none) {K : Act → World → Prop} {R : Exit → Act → World → Prop} {a : Act} {w : World} (h : K (a.put (some d) (a.eval (.tmp s))) w) :
    (Code.region id #[o] false).wpIn (FR ro) 0 P (Exit.then K R) a w := by
  refine wpIn_region ?_
  have hw : Region.wanted o (yielded #[o] a.tmps) = true := by unfold Region.wanted; rw [hg]
  have : List.range (#[o] : Array Oper).size = [0] := rfl
  rw [this]
  simp only [wpOpsIn, List.getElem?_toArray, List.getElem?_cons_zero, hw, if_true]
  refine ⟨fun _ _ => trivial, ?_⟩
  rw [Oper.semAt_eq _ _ _ (by rw [ho]; simp)]
  have e : (execOp a.eval o).run P w = .ok (.value (a.eval (.tmp s))) w := by simp [execOp, ho]
  rw [e, Oper.uponIn_value, hd]
  exact h

theorem rel_set {R : AV → Value → Prop} {l : List AV} {ts : Array Value} (h : ∀ (t : Nat) x, l[t]? = some x → ∃ v, ts[t]? = some v ∧ R x v) (hl : l.length = ts.size) {x : AV} {v : Value} (hr : R x v) (d : Nat) : ∀ (t : Nat) y, (l.set d x)[t]? = some y → ∃ v', (ts.setIfInBounds d v)[t]? = some v' ∧ R y v' := by
  intro t y hy
  rw [List.getElem?_set] at hy
  rw [Array.getElem?_setIfInBounds]
  split at hy
  · rename_i e; subst e
    split at hy
    · rename_i hlt; cases hy
      rw [if_pos rfl, if_pos (by omega)]
      exact ⟨v, rfl, hr⟩
    · cases hy
  · rename_i e
    rw [if_neg e]
    exact h t y hy

theorem rel_getD {rd : Nat → Nat → Option Value} {I : Nat → Prop} {β : Nat → Option Place} {l : List AV} {ts : Array Value} (h : ∀ (t : Nat) x, l[t]? = some x → ∃ v, ts[t]? = some v ∧ RelV rd I β x v) (s : Nat) : RelV rd I β (l.getD s .any) (ts.getD s undef) := by
  rw [List.getD_eq_getElem?_getD]
  cases hs : l[s]? with
  | none => simp [RelV]
  | some x =>
    obtain ⟨v, hv, hr⟩ := h s x hs
    rw [Array.getD_eq_getD_getElem?, hv]
    exact hr

theorem range_ok {E : Tab} (hE : TabOK V E) (hg : Γ.gb = V.gb) (h0 : V.G Γ.w) {A : Ann} {kb : Nat} {kd : IntKind} {g : Operand} {t1 t2 s d rid : Nat} {o : Oper} {body : Code} {round : Int → Nat → tysP A.ps → Option (tysO A.ps)} {merge : tysP A.ps → tysO A.ps → tysP A.ps} {outs : tysP A.ps → tysO A.ps}
    (hback : BackOK V.P kb kd) (ho : o.op = .assign (.tmp s)) (hd : o.dst = some d) (hgd : o.guard = none)
    (hl : ∀ (l : Nat) (Γ' : Base), Γ'.gb = V.gb → V.G Γ'.w → ∀ a ∈ loopsOf body, ∀ L, E.lp (keyOf a) = some L → Sound V Γ' (some l) a fun ρ => L.f ρ)
    (hround : ∀ v i y, roundRun E A t1 t2 s d kd body v i y = round v i y) (hmerge : ∀ y o, mergeRun A y o = some (merge y o))
    (hdec : ∀ y, (decArgs (lift A.ps (encVals A.ps y 0 (cntK A.ps)) (rowsIn A.ps y)).2 [] A.ps (lift A.ps (encVals A.ps y 0 (cntK A.ps)) (rowsIn A.ps y)).1).bind (fun r => some r.1) = some y)
    (hslot : ∀ y, (A.slots.map fun t => (encSt A y).tmps.getD t .any) = encVals A.ps y 0 (cntK A.ps)) (hog : A.og = List.range (cntK A.ps)) (houts : ∀ y, finQ E [] A.ps [] (encSt A y) = some ((), outs y)) :
    Sound V Γ none (.rangeFunc g #[t1, t2] (.region rid #[o] false) body) fun ρ => (rangeF A kb kd g (fun v i y => (round v i y).bind fun o => some (merge y o)) outs).f ρ := by
  have eg : ∀ args w, (callFunc kb args).run V.P w = .ok (.enter kb args) w := by
    obtain ⟨fn, h1, h2, h3⟩ := hback.1
    intro args w
    simp only [callFunc, Sem.run_bind, run_program, Result.andThen_ok, h1]
    simp only [h2, h3]
    simp [Sem.run_pure]
  intro ρ st K z h a w hs Q hQ
  obtain ⟨β, hs⟩ := hs
  simp only [rangeF] at h
  split at h
  case h_2 => cases h
  rename_i k nb hgv
  split at h
  case isFalse => cases h
  rename_i hk
  subst hk
  split at h
  case h_2 => cases h
  rename_i xv hnb
  split at h
  case h_2 => cases h
  rename_i xs mx hxs
  split at h
  case h_2 => cases h
  rename_i y0' s0 t0 m0 hd0
  split at h
  case isFalse => cases h
  rename_i hdj
  obtain ⟨hdj, hlenst⟩ := hdj
  obtain ⟨hlen, h⟩ := grd_some' h
  simp only [decide_eq_true_eq] at hlen
  have hgrel := ev_ok hs g
  rw [hgv] at hgrel
  simp only [RelV, RelL] at hgrel
  obtain ⟨us, hgval, u, us', rfl, ⟨pn, hpn, hpk, rfl⟩, rfl⟩ := hgrel
  obtain ⟨pn', hpn', hpnB, e1, e2, e3, cs, ty, g1, g2, ws, g3, g4, g5, g6⟩ := hs.ctx.rows nb _ hnb
  rw [hpn] at hpn'; cases hpn'
  have hpnB := hpnB hpk
  obtain ⟨x0, yu, ou0, hgx0, hdec0, v0, H0, hK0, hcore0⟩ := callE_core (st := st) hg h0 h
  obtain ⟨yN, hyN, hyo⟩ := bind_some' hgx0
  cases hyo
  obtain ⟨s1, t1', m1, hd1⟩ := hdec0
  have hd1' : decArgs (lift A.ps (A.slots.map fun t => st.tmps.getD t .any) st.heap).2 [] A.ps (lift A.ps (A.slots.map fun t => st.tmps.getD t .any) st.heap).1 = some (x0, s1, t1', m1) := hd1
  rw [hd0] at hd1'
  cases hd1'
  obtain ⟨I, βc, hG0, hgb0, hctx0, hrel0, hIsub0, hnl0, hend0⟩ := hcore0 a w β hs _ (slots_rel hs A.slots)
  have hnl : ∀ b r p, st.heap[b]? = some (some r) → β b = some p → p.backed = true → b ∈ nb :: mx → ¬ live (rowsIn A.ps y0') βc p.B := fun b r p hb hp hk hm => hnl0 s0 t0 m0 hd0 b r p hb hp hk fun hmem => by
    have := List.all_eq_true.1 hdj b hmem
    simp at this
    rcases List.mem_cons.1 hm with h | h
    · exact this.1 h
    · exact this.2 h
  have hBnl := hnl nb _ pn hnb hpn hpk List.mem_cons_self
  obtain ⟨B, hB⟩ : ∃ B, B = pn.B := ⟨_, rfl⟩
  obtain ⟨ob, hob⟩ : ∃ ob, ob = pn.O + 0 * pn.s + 0 := ⟨_, rfl⟩
  rw [← hB] at hgval hBnl
  rw [← hob] at hgval
  have hBlt : B < w.heap.size := by rw [hB]; exact hpnB.2
  cases ws with
  | nil => simp at g3
  | cons u0 ws' =>
  cases ws' with
  | cons _ _ => simp at g3
  | nil =>
  obtain ⟨u1, u2, hu12, hrc, hr2⟩ := decC_ok hs.ctx (.sl (.int kd)) [xv] [u0] xs [] mx g5 hxs
  simp only [RelL] at hr2; subst hr2
  simp only [List.append_nil] at hu12
  subst hu12
  simp only [RelC] at hrc
  obtain ⟨ad, cap, hu0, hcap, hel⟩ := hrc
  simp only [List.cons.injEq, and_true] at hu0
  subst hu0
  have hc0 : w.cell? ⟨B, ob, none⟩ = some (.slice ad (xs : List Int).length cap) := by
    have := g4 0 (by simp)
    simp only [List.getElem?_cons_zero, Nat.add_zero] at this
    simp only [World.cell?, hB, hob, g1, Nat.zero_mul, Nat.add_zero]
    exact this
  have hcells : (xs : List Int) ≠ [] → ∃ b off, ad = some ⟨b, off, none⟩ ∧ b < w.heap.size ∧ ¬ live (rowsIn A.ps y0') βc b ∧ ∀ (k : Nat) x, (xs : List Int)[k]? = some x → w.cell? ⟨b, off + k, none⟩ = some (.int kd x) := by
    intro hne
    obtain ⟨b, off, e, hb, hh⟩ := hel hne
    refine ⟨b, off, e, ?_, ?_, fun k x hk => ?_⟩
    · rcases hb with hb | ⟨b', hb', p, hp, hk, rfl⟩
      · exact hb.1
      · obtain ⟨r, hr⟩ := decC_rows _ _ _ _ _ hxs b' hb'
        obtain ⟨p', hp', h1, _⟩ := hs.ctx.rows b' r hr; rw [hp] at hp'; cases hp'; exact (h1 hk).2
    · rcases hb with hb | ⟨b', hb', p, hp, hk, rfl⟩
      · exact fun hlv => (hctx0.imm b (hIsub0 b hb)).2 hlv
      · obtain ⟨r, hr⟩ := decC_rows _ _ _ _ _ hxs b' hb'
        exact hnl b' r p hr hp hk (List.mem_cons_of_mem _ hb')
    · obtain ⟨us, h1, h2, h3⟩ := hh k x hk
      subst h3
      have := h2 0 (by simp [GT.cells])
      simp only [GT.cells, Nat.mul_one, Nat.add_zero] at this
      exact rdW_cell this rfl
  obtain ⟨y0, hy0⟩ : ∃ y0, y0 = y0' := ⟨_, rfl⟩
  rw [← hy0] at hBnl hcells hctx0 hrel0 hend0 hyN
  obtain ⟨Γc, hΓc⟩ : ∃ Γc : Base, Γc = ⟨V.gb, w, I, βc, rowsIn A.ps y0⟩ := ⟨_, rfl⟩
  obtain ⟨aC, haC⟩ : ∃ aC : Act, aC = { tmps := a.tmps, defers := [] } := ⟨_, rfl⟩
  have hs2 : SimB Γc (encSt A y0) aC w βc := by
    rw [hΓc, haC]
    have := start_ok hctx0 hgb0 (tmps := (encSt A y0).tmps) (ts := a.tmps) (by simp only [encSt, putAll_len, List.length_replicate]; rw [← hlenst, ← hs.len]) (fun t q hq => ?_) (K := cntK A.ps) (by have := rowsIn_len A.ps y0; show cntK A.ps ≤ (rowsIn A.ps y0).length; omega)
    · rw [← hog] at this; exact this
    · have ht : t < a.tmps.size := by
        have := (List.getElem?_eq_some_iff.1 hq).1
        simp only [encSt, putAll_len, List.length_replicate] at this
        rw [← hs.len, hlenst]; exact this
      refine ⟨_, slot_val ht, ?_⟩
      rcases putAll_get _ _ _ t q hq with hh | ⟨i, h1, h2⟩
      · rw [List.getElem?_replicate] at hh
        split at hh
        · cases hh; simp [RelV]
        · cases hh
      · obtain ⟨v, hv, hr⟩ := relL_get _ _ hrel0 i q h2
        simp only [List.getElem?_map, h1, Option.map_some, Option.some.injEq] at hv
        subst hv
        exact hr
  obtain ⟨l, hl0⟩ : ∃ l, l = w.heap.size + 1 := ⟨_, rfl⟩
  obtain ⟨mk, hmk⟩ : ∃ mk : Deferred, mk = { target := .collected w.heap.size, args := #[] } := ⟨_, rfl⟩
  refine wpIn_rangeFunc fun fn hfn => ?_
  obtain ⟨rec, hrec⟩ : ∃ rec : LoopState → Loop, rec = fun st => { state := st, pending := none, fn, tmps := a.tmps, params := #[t1, t2], assign := .region rid #[o] false, body, defers := w.heap.size } := ⟨_, rfl⟩
  obtain ⟨W1, hW1⟩ : ∃ W1, (w.alloc (.deferred (some []))).alloc (.loop (rec .ready)) = W1 := ⟨_, rfl⟩
  have hsz1 : W1.heap.size = w.heap.size + 2 := by rw [← hW1]; simp
  have hL1 : W1.heap[l]? = some (.loop (rec .ready)) := by
    rw [← hW1, hl0]; have := World.alloc_heap_new (w.alloc (.deferred (some []))) (.loop (rec .ready)); rwa [World.size_alloc] at this
  have hD1 : W1.heap[w.heap.size]? = some (.deferred (some [])) := by
    rw [← hW1]; exact (Below.heap_alloc _ _ _ (by simp)).trans (World.alloc_heap_new w _)
  have hext : Ext w W1 := by rw [← hW1]; exact (Ext.alloc w _).trans (Ext.alloc _ _)
  have hblk : ∀ k, k < w.heap.size → W1.heap[k]? = w.heap[k]? := fun k hk => hext.block k hk
  have hcell1 : ∀ (p : Addr), p.block < w.heap.size → W1.cell? p = w.cell? p := fun p hp => by simp only [World.cell?, hblk p.block hp]
  refine ⟨l, [mk], W1, { target := .fn (.func k) #[.pointer (some ⟨B, ob, none⟩)], args := #[.func (.yield l) #[] #[]] }, W1, k, #[.func (.yield l) #[] #[]] ++ #[.pointer (some ⟨B, ob, none⟩)], W1, ?_, ?_, fun _ _ => trivial, ?_, (fun h => by cases h), ?_⟩
  · rw [← hW1, hrec, hl0, hmk]; exact run_enterLoop_outer _ _ _ _ _
  · simp only [resolve, hgval]
    simp [go_sem]
  · simp [invoke, go_sem, eg]
  let f : Int × Nat → tysP A.ps → Option (tysP A.ps) := fun p y => (round p.1 p.2 y).bind fun o => some (merge y o)
  let J : Nat → World → Prop := fun k W => ∃ y β, foldO f ((xs : List Int).zipIdx.reverse.take k) y0 = some y ∧ SimB Γc (encSt A y) aC W β ∧ W.heap[l]? = some (.loop (rec .ready)) ∧ W.heap[w.heap.size]? = some (.deferred (some []))
  have hΓw : Γc.w = w := by rw [hΓc]
  have hlΓ : Γc.w.heap.size ≤ l := by rw [hΓw]; omega
  have hfr : ∀ {st' : St} {W : World} {β' : Nat → Option Place}, SimB Γc st' aC W β' → ∀ B, B < w.heap.size → ¬ live (rowsIn A.ps y0) βc B → W.heap[B]? = w.heap[B]? := fun h B hB hn => by
    have := h.frm.block B (by rw [hΓw]; exact hB) (by rw [hΓc]; exact hn)
    rw [hΓw] at this; exact this
  refine CallsIn.mono (hback.2 B ob ad cap xs W1 l J (Nat.le_trans hlen (by decide)) ((hcell1 _ hBlt).trans hc0) (fun hne => ?_) (fun k x W hkx hJ => ?_) ?_) ?_
  · obtain ⟨b, off, e, hb, _, hh⟩ := hcells hne
    exact ⟨b, off, e, fun k x hk => (hcell1 _ hb).trans (hh k x hk)⟩
  · -- a round
    obtain ⟨y, β, hy, hsW, hL, hD⟩ := hJ
    obtain ⟨y1, y2, e1, e2, e3⟩ := foldO_split k _ y0 yN x hyN hkx
    have : some y = some y1 := hy.symm.trans e1
    cases this
    obtain ⟨x, i⟩ := x
    obtain ⟨ou, hou, hy2⟩ := bind_some' e2
    cases hy2
    rw [← hround] at hou
    have hlt : l < W.heap.size := (Array.getElem?_eq_some_iff.1 hL).1
    have hyield := run_yield (P := V.P) (args := encI kd (x, i)) hL (by rw [hrec]; rfl)
    rw [hrec] at hyield
    refine ⟨fn, _, _, _, hyield, roundIn_of_wpIn hfn (assign_wp (ro := some l) ho hd hgd ⟨W.putObj l (.loop (rec .busy)), by have := run_beginRound (P := V.P) hL (by rw [hrec]); rw [hrec] at this ⊢; exact this, ?_⟩)⟩
    obtain ⟨W2, hW2⟩ : ∃ W2, W.putObj l (.loop (rec .busy)) = W2 := ⟨_, rfl⟩
    rw [hW2]
    have hL2 : W2.heap[l]? = some (.loop (rec .busy)) := by rw [← hW2]; exact World.putObj_heap_same hlt
    have hoth2 : ∀ k, k ≠ l → W2.heap[k]? = W.heap[k]? := fun k hk => by rw [← hW2]; exact World.putObj_heap_other hk
    have hsz2 : W2.heap.size = W.heap.size := by rw [← hW2]; simp
    have hs2' : SimB Γc (encSt A y) aC W2 β := simB_obj (ds := aC.defers) hsW (r := l) (fun o ho => by rw [hL] at ho; cases ho; exact ⟨by simp, by simp⟩) hlΓ (by rw [← hW2]; rfl) (by rw [← hW2]; rfl) (by rw [← hW2]; rfl) (by rw [hsz2]; exact Nat.le_refl _) (fun B _ hne => hoth2 B hne)
      (hsW.defers.keep fun D _ hD => hoth2 D fun e => by rw [e, hL] at hD; cases hD)
    have hm := hmerge y ou
    unfold mergeRun at hm
    obtain ⟨x', y', ou', hgx, ⟨s1, t1', m1, hdx⟩, v, H, hH, hcore⟩ := callE_core (Γ := Γc) (st := encSt A y) (by rw [hΓc]) (by rw [hΓw]; exact hG0) hm
    cases hgx
    have hd' := hdec y
    have hdx' : decArgs (lift A.ps (encVals A.ps y 0 (cntK A.ps)) (rowsIn A.ps y)).2 [] A.ps (lift A.ps (encVals A.ps y 0 (cntK A.ps)) (rowsIn A.ps y)).1 = some (x', s1, t1', m1) := hdx
    rw [hdx'] at hd'
    simp only [Option.bind_some, Option.some.injEq] at hd'
    subst hd'
    obtain ⟨I, βd, hG, hgb, hctx, hrel, hIsub, _, hend⟩ := hcore aC W2 β hs2' _ (by have := slots_rel hs2' A.slots; rw [hslot] at this; exact this)
    obtain ⟨T, hT⟩ : ∃ T : Array Value, T = (#[t1, t2].zip (encI kd (x, i))).foldl (fun tmps (t, a) => tmps.setIfInBounds t a) a.tmps := ⟨_, rfl⟩
    have hat : T = (a.tmps.setIfInBounds t1 (.int .i64 i)).setIfInBounds t2 (.int kd x) := by rw [hT]; simp [encI]
    have hlenA : (encSt A x').tmps.length = a.tmps.size := by have := hsW.len; rw [haC] at this; exact this
    have hrel0 : ∀ (t : Nat) q, (encSt A x').tmps[t]? = some q → ∃ v, a.tmps[t]? = some v ∧ RelV (rdW W2) I βd q v := by
      intro t q hq
      have ht : t < a.tmps.size := by rw [← hlenA]; exact (List.getElem?_eq_some_iff.1 hq).1
      refine ⟨_, slot_val ht, ?_⟩
      rcases putAll_get _ _ _ t q hq with hh | ⟨i, h1, h2⟩
      · rw [List.getElem?_replicate] at hh
        split at hh
        · cases hh; simp [RelV]
        · cases hh
      · obtain ⟨v, hv, hr⟩ := relL_get _ _ hrel i q h2
        simp only [List.getElem?_map, h1, Option.map_some, Option.some.injEq] at hv
        subst hv
        rw [haC] at hr
        exact hr
    have hrel2 := rel_set (R := RelV (rdW W2) I βd) (rel_set (R := RelV (rdW W2) I βd) hrel0 hlenA (x := .int .i64 i) (v := .int .i64 i) (by simp [RelV]) t1) (by simp [hlenA]) (x := .int kd x) (v := .int kd x) (by simp [RelV]) t2
    have hsim : SimB ⟨V.gb, W2, I, βd, rowsIn A.ps x'⟩ (roundSt A t1 t2 s d kd x i x') (({ tmps := T, defers := [] } : Act).put (some d) (({ tmps := T, defers := [] } : Act).eval (.tmp s))) W2 βd := by
      refine start_ok hctx hgb ?_ ?_ (by have := rowsIn_len A.ps x'; show cntK A.ps ≤ (rowsIn A.ps x').length; omega)
      · simp [Act.put, hat, hlenA]
      · have := rel_set (R := RelV (rdW W2) I βd) hrel2 (by simp [hlenA]) (rel_getD hrel2 s) d
        simp only [Act.put, Act.eval, hat]
        exact this
    rw [← hT]
    unfold roundRun at hou
    refine run_ok (ro := some l) hE (Γ := ⟨V.gb, W2, I, βd, rowsIn A.ps x'⟩) rfl hG body (hl l _ rfl hG) _ _ _ _ hou _ W2 ⟨βd, hsim⟩ _ fun ex st' a' W3 hs3 hK3 => ?_
    cases ex with
    | exit id => cases hK3
    | ret => cases hK3
    | normal =>
    obtain ⟨⟨un, o3⟩, hfin, ho3⟩ := bind_some' hK3
    cases ho3
    obtain ⟨β3, hs3⟩ := hs3
    obtain ⟨us3, I3, β4, g1, g2, g3, g4⟩ := fin_ok hE (vs := (A.slots.map fun t => a.eval (.tmp t)).toArray) (by rw [haC] at hrel; have : (fun t => ({ tmps := a.tmps, defers := [] } : Act).eval (.tmp t)) = fun t => a.eval (.tmp t) := rfl; rw [this] at hrel; simpa using hrel) hs3 hfin
    obtain ⟨β5, k1, _, k3⟩ := hend W3 us3 I3 β4 g2 g3 g4
    obtain ⟨β6, k4, k5⟩ := canonB hH k1
    have hlive : ∀ k, (∀ x, W2.heap[k]? ≠ some (.deferred x)) ∧ (∀ x, W2.heap[k]? ≠ some (.loop x)) ∨ ¬ live (rowsIn A.ps x') βd k := fun k => by
      by_cases hh : live (rowsIn A.ps x') βd k
      · exact .inl (hctx.live_obj hh)
      · exact .inr hh
    have hD2 : W2.heap[w.heap.size]? = some (.deferred (some [])) := (hoth2 _ (by omega)).trans hD
    have hL3 : W3.heap[l]? = some (.loop (rec .busy)) := (g2.block l (by omega) ((hlive l).elim (fun h => absurd hL2 (h.2 _)) id)).trans hL2
    have hD3 : W3.heap[w.heap.size]? = some (.deferred (some [])) := (g2.block _ (Array.getElem?_eq_some_iff.1 hD2).1 ((hlive _).elim (fun h => absurd hD2 (h.1 _)) id)).trans hD2
    have hlt3 : l < W3.heap.size := (Array.getElem?_eq_some_iff.1 hL3).1
    have hsim6 : SimB Γc (encSt A (merge x' o3)) aC (W3.putObj l (.loop (rec .ready))) β6 := simB_obj (w' := W3.putObj l (.loop (rec .ready))) (ds := aC.defers) k4 (r := l) (fun o ho => by rw [hL3] at ho; cases ho; exact ⟨by simp, by simp⟩) hlΓ rfl rfl rfl (by simp) (fun B _ hne => World.putObj_heap_other hne)
        (k4.defers.keep fun D _ hD => World.putObj_heap_other fun e => by rw [e, hL3] at hD; cases hD)
    have hkeep : ∀ B, B < w.heap.size → ¬ live (rowsIn A.ps y0) βc B → (W3.putObj l (.loop (rec .ready))).heap[B]? = W.heap[B]? := fun B hB hn => (hfr hsim6 B hB hn).trans (hfr hsW B hB hn).symm
    refine ⟨.bool true, W3.putObj l (.loop (rec .ready)), by have := run_endRound (P := V.P) none hL3; rw [hrec] at this ⊢; exact this, rfl, ⟨merge x' o3, β6, e3, hsim6, World.putObj_heap_same hlt3, (World.putObj_heap_other (by omega)).trans hD3⟩, ?_, ?_, ?_⟩
    · have := g2.size; rw [World.putObj_size]; omega
    · exact hkeep _ hBlt hBnl
    · intro k hk
      cases had : ad with
      | none => rw [had] at hk; cases hk
      | some ad' =>
        rw [had] at hk
        simp only [Option.map_some, Option.some.injEq] at hk
        by_cases hne : xs = []
        · subst hne; simp at hkx
        · obtain ⟨b', off', e', hb1, hb2, _⟩ := hcells hne
          have e2 := had.symm.trans e'
          cases e2
          subst hk
          exact hkeep _ hb1 hb2
  · exact ⟨y0, βc, rfl, hs2.ext hext, hL1, hD1⟩
  · rintro e W ⟨⟨v, rfl⟩, y, β', hy, hsW, hL, hD⟩
    have hlen2 : (xs : List Int).zipIdx.reverse.take (xs : List Int).length = (xs : List Int).zipIdx.reverse := List.take_of_length_le (by simp)
    rw [hlen2] at hy
    have : some y = some yN := hy.symm.trans hyN
    cases this
    rw [hΓc] at hsW
    obtain ⟨us3, I3, β4, f1, f2, f3, f4⟩ := fin_ok hE (vs := (A.slots.map fun t => a.eval (.tmp t)).toArray) (by simpa using hrel0) hsW (houts yN)
    obtain ⟨β5, k1, _, _⟩ := hend0 W us3 I3 β4 f2 f3 f4
    refine ⟨none, W.putObj l (.loop (rec .exhausted)), by have := run_endLoop (P := V.P) hL (by rw [hrec]; simp); rw [hrec] at this ⊢; exact this, hQ .normal { st with heap := H0 } _ _ ⟨β5, ?_⟩ hK0⟩
    refine simB_obj (w' := W.putObj l (.loop (rec .exhausted))) (ds := [mk] ++ a.defers) k1 (r := l) (fun o ho => by rw [hL] at ho; cases ho; exact ⟨by simp, by simp⟩) (by have := hs.frm.size; omega) rfl rfl rfl (by simp) (fun B _ hne => World.putObj_heap_other hne) ⟨?_, ?_⟩
    · refine List.nodup_cons.2 ⟨fun hmem => ?_, hs.defers.1⟩
      obtain ⟨D, h1, _, h3⟩ := hs.defers.2 _ hmem
      rw [hmk] at h1
      cases h1
      have := (Array.getElem?_eq_some_iff.1 h3).1
      omega
    · intro d' hd'
      rcases List.mem_cons.1 hd' with rfl | hd'
      · exact ⟨w.heap.size, hmk, hs.frm.size, (World.putObj_heap_other (by omega)).trans hD⟩
      · obtain ⟨D, h1, h2, h3⟩ := k1.defers.2 _ hd'
        exact ⟨D, h1, h2, (World.putObj_heap_other fun e => by rw [e, hL] at h3; cases h3).trans h3⟩
end
end Go.AM
end
section
namespace Go.AM
open Go.RowKit (Below)

def isLoop' : Code → Bool
  | .loop _ => true
  | _ => false
def isRange' : Code → Bool
  | .rangeFunc .. => true
  | _ => false

def inner : Code → Code
  | .loop a => a
  | .rangeFunc _ _ _ a => a
  | _ => .skip

def allLoops : Code → List Code
  | .seq a b => allLoops a ++ allLoops b
  | .cond _ a b => allLoops a ++ allLoops b
  | .block _ a => allLoops a
  | .loop a => .loop a :: allLoops a
  | .rangeFunc g ps a c => .rangeFunc g ps a c :: allLoops c
  | .region id ops draw => if hardR draw ops then [.region id ops draw] else []
  | _ => []
def pick (id : Nat) : List Code → Code
  | [] => .skip
  | a :: l => cond (Nat.beq (keyOf a) id) a (pick id l)
theorem pick_of : ∀ (l : List Code) {a : Code}, a ∈ l → nodupB (l.map keyOf) = true → pick (keyOf a) l = a
  | b :: l, a, h, hn => by
    simp only [List.map_cons, nodupB, Bool.and_eq_true, Bool.not_eq_true'] at hn
    simp only [pick]
    by_cases e : keyOf b = keyOf a
    · rw [e, show Nat.beq (keyOf a) (keyOf a) = true from by simp]
      rcases List.mem_cons.1 h with rfl | h
      · rfl
      · have := hn.1
        rw [e] at this
        simp only [List.contains_eq_mem, decide_eq_false_iff_not, List.mem_map, not_exists, not_and] at this
        exact absurd rfl (this a h)
    · have e' : Nat.beq (keyOf b) (keyOf a) = false := by
        cases hb : Nat.beq (keyOf b) (keyOf a) with
        | false => rfl
        | true => exact absurd (Nat.eq_of_beq_eq_true hb) e
      rw [e']
      rcases List.mem_cons.1 h with rfl | h
      · exact absurd rfl e
      · exact pick_of l h hn.2


inductive LE where
  | lp (id : Nat) (A : Ann) (exs : List Ex) (step : tysP A.ps → Option (Ex × tysP A.ps))
  | raw (id : Nat) (L : LoopO)
def LE.key : LE → Nat
  | .lp id _ _ _ => id
  | .raw id _ => id
noncomputable def LE.lo : LE → LoopO
  | .lp _ A exs step => loopF A exs step
  | .raw _ L => L
noncomputable def lookE : List LE → Nat → Option LoopO
  | [], _ => none
  | e :: l, i => if i = e.key then some e.lo else lookE l i
theorem lookE_some : ∀ {l : List LE} {i : Nat} {L : LoopO}, lookE l i = some L → ∃ e ∈ l, e.key = i ∧ e.lo = L
  | e :: l, i, L, h => by
    simp only [lookE] at h
    split at h
    · rename_i hi; cases h; exact ⟨e, List.mem_cons_self, hi.symm, rfl⟩
    · obtain ⟨e', h1, h2⟩ := lookE_some h; exact ⟨e', List.mem_cons_of_mem _ h1, h2⟩


def InnerOK (V : Env) (E : Tab) (ro : Option Nat) (c : Code) : Prop := ∀ Γ : Base, Γ.gb = V.gb → V.G Γ.w → ∀ a ∈ loopsOf c, ∀ L, E.lp (keyOf a) = some L → Sound V Γ ro a fun ρ => L.f ρ
def LE.OK (V : Env) (E : Tab) (c : Code) : LE → Prop
  | .lp id A _ step => ∀ x, run E (inner (pick id (allLoops c))) (encSt A x) (fun ex st => (decSt A (liftSt A st)).bind fun y => some (ex, y)) = step x
  | .raw id L => ∀ (Γ : Base) (ro : Option Nat), Γ.gb = V.gb → V.G Γ.w → (ro = none ∨ isRange' (pick id (allLoops c)) = false) → (∀ ro', ro = none → InnerOK V E ro' (inner (pick id (allLoops c)))) → Sound V Γ ro (pick id (allLoops c)) fun ρ => L.f ρ
def LsOK (V : Env) (E : Tab) (c : Code) (l : List LE) : Prop := ∀ e ∈ l, e.OK V E c

def loopsChk (c : Code) (l : List LE) : Bool := nodupB ((allLoops c).map keyOf) && l.all fun e => match e with
  | .lp id _ _ _ => isLoop' (pick id (allLoops c))
  | .raw id _ => !isLoop' (pick id (allLoops c))

def flat1 : Code → Bool
  | .seq a b => flat1 a && flat1 b
  | .cond _ a b => flat1 a && flat1 b
  | .block _ a => flat1 a
  | .loop a => flat1 a
  | .rangeFunc .. => false
  | _ => true
def flat2 : Code → Bool
  | .seq a b => flat2 a && flat2 b
  | .cond _ a b => flat2 a && flat2 b
  | .block _ a => flat2 a
  | .loop a => flat2 a
  | .rangeFunc _ _ _ a => flat1 a
  | _ => true
section
variable {V : Env} {E : Tab}
theorem inner_ok (hE : TabOK V E) {l : List LE} (hl : ∀ i, E.lp i = lookE l i) {body : Code} (hc : loopsChk body l = true) (hok : LsOK V E body l) : ∀ (c : Code), (∀ a ∈ allLoops c, a ∈ allLoops body) → ∀ ro, (ro = none ∧ flat2 c = true ∨ flat1 c = true) → InnerOK V E ro c
  | .seq a b, hs, ro, hf => fun Γ hg h0 x hx => by
    simp only [loopsOf, List.mem_append] at hx
    have hfa : (ro = none ∧ flat2 a = true ∨ flat1 a = true) ∧ (ro = none ∧ flat2 b = true ∨ flat1 b = true) := by
      rcases hf with ⟨h1, h2⟩ | h2
      · simp only [flat2, Bool.and_eq_true] at h2; exact ⟨.inl ⟨h1, h2.1⟩, .inl ⟨h1, h2.2⟩⟩
      · simp only [flat1, Bool.and_eq_true] at h2; exact ⟨.inr h2.1, .inr h2.2⟩
    rcases hx with hx | hx
    · exact inner_ok hE hl hc hok a (fun y hy => hs y (by simp [allLoops, hy])) ro hfa.1 Γ hg h0 x hx
    · exact inner_ok hE hl hc hok b (fun y hy => hs y (by simp [allLoops, hy])) ro hfa.2 Γ hg h0 x hx
  | .cond _ a b, hs, ro, hf => fun Γ hg h0 x hx => by
    simp only [loopsOf, List.mem_append] at hx
    have hfa : (ro = none ∧ flat2 a = true ∨ flat1 a = true) ∧ (ro = none ∧ flat2 b = true ∨ flat1 b = true) := by
      rcases hf with ⟨h1, h2⟩ | h2
      · simp only [flat2, Bool.and_eq_true] at h2; exact ⟨.inl ⟨h1, h2.1⟩, .inl ⟨h1, h2.2⟩⟩
      · simp only [flat1, Bool.and_eq_true] at h2; exact ⟨.inr h2.1, .inr h2.2⟩
    rcases hx with hx | hx
    · exact inner_ok hE hl hc hok a (fun y hy => hs y (by simp [allLoops, hy])) ro hfa.1 Γ hg h0 x hx
    · exact inner_ok hE hl hc hok b (fun y hy => hs y (by simp [allLoops, hy])) ro hfa.2 Γ hg h0 x hx
  | .block _ a, hs, ro, hf => fun Γ hg h0 x hx => by
    simp only [loopsOf] at hx
    exact inner_ok hE hl hc hok a (fun y hy => hs y (by simpa [allLoops] using hy)) ro (by simpa [flat1, flat2] using hf) Γ hg h0 x hx
  | .loop a, hs, ro, hf => fun Γ hg h0 x hx L hL => by
    simp only [loopsOf, List.mem_singleton] at hx
    subst hx
    have hin := inner_ok hE hl hc hok a (fun y hy => hs y (by simp [allLoops, hy])) ro (by simpa [flat1, flat2] using hf) Γ hg h0
    simp only [loopsChk, Bool.and_eq_true] at hc
    have hp := pick_of _ (hs (.loop a) (by simp [allLoops])) hc.1
    rw [hl] at hL
    obtain ⟨e, he, hk, rfl⟩ := lookE_some hL
    cases e with
    | lp id A exs step =>
      simp only [LE.key] at hk; subst hk
      have h := hok _ he
      simp only [LE.OK] at h
      rw [hp] at h
      exact loop_ok hE hg h0 hin h
    | raw id L =>
      simp only [LE.key] at hk; subst hk
      have := List.all_eq_true.1 hc.2 _ he
      simp only [hp, isLoop', Bool.not_true] at this
      cases this
  | .rangeFunc g ps r a, hs, ro, hf => fun Γ hg h0 x hx L hL => by
    simp only [loopsOf, List.mem_singleton] at hx
    subst hx
    have hro : ro = none ∧ flat1 a = true := by
      rcases hf with ⟨h1, h2⟩ | h
      · exact ⟨h1, by simpa [flat2] using h2⟩
      · simp [flat1] at h
    have hin := fun ro' => inner_ok hE hl hc hok a (fun y hy => hs y (by simp [allLoops, hy])) ro' (.inr hro.2)
    simp only [loopsChk, Bool.and_eq_true] at hc
    have hp := pick_of _ (hs (.rangeFunc g ps r a) (by simp [allLoops])) hc.1
    rw [hl] at hL
    obtain ⟨e, he, hk, rfl⟩ := lookE_some hL
    cases e with
    | lp id A exs step =>
      simp only [LE.key] at hk; subst hk
      have := List.all_eq_true.1 hc.2 _ he
      simp only [hp, isLoop'] at this
      cases this
    | raw id L =>
      simp only [LE.key] at hk; subst hk
      have h := hok _ he
      simp only [LE.OK] at h
      rw [hp] at h
      exact h Γ ro hg h0 (.inl hro.1) fun ro' _ => hin ro'
  | .region id ops draw, hs, ro, hf => fun Γ hg h0 x hx L hL => by
    simp only [loopsOf] at hx
    split at hx
    case isFalse => simp at hx
    rename_i hh
    simp only [List.mem_singleton] at hx
    subst hx
    simp only [loopsChk, Bool.and_eq_true] at hc
    have hp := pick_of _ (hs (.region id ops draw) (by simp [allLoops, hh])) hc.1
    rw [hl] at hL
    obtain ⟨e, he, hk, rfl⟩ := lookE_some hL
    cases e with
    | lp id' A exs step =>
      simp only [LE.key] at hk; subst hk
      have := List.all_eq_true.1 hc.2 _ he
      simp only [hp, isLoop'] at this
      cases this
    | raw id' L =>
      simp only [LE.key] at hk; subst hk
      have h := hok _ he
      simp only [LE.OK] at h
      rw [hp] at h
      exact h Γ ro hg h0 (.inr rfl) fun ro' _ Γ' _ _ b hb => by simp [inner, loopsOf] at hb
  | .skip, _, _, _ | .exit .., _, _, _ | .ret, _, _, _ | .label .., _, _, _ | .goto .., _, _, _ | .scope .., _, _, _ | .refuse .., _, _, _ => fun Γ hg h0 x hx => by simp [loopsOf] at hx

theorem lsNil {c : Code} : LsOK V E c [] := fun e h => by cases h
theorem lsLp {c : Code} {id : Nat} {A : Ann} {exs : List Ex} {step : tysP A.ps → Option (Ex × tysP A.ps)} {l : List LE} (h : ∀ x, run E (inner (pick id (allLoops c))) (encSt A x) (fun ex st => (decSt A (liftSt A st)).bind fun y => some (ex, y)) = step x) (r : LsOK V E c l) : LsOK V E c (.lp id A exs step :: l) := fun e he => by
  rcases List.mem_cons.1 he with rfl | he
  · exact h
  · exact r e he
theorem lsRaw {c : Code} {id : Nat} {L : LoopO} {l : List LE} (h : (LE.raw id L).OK V E c) (r : LsOK V E c l) : LsOK V E c (.raw id L :: l) := fun e he => by
  rcases List.mem_cons.1 he with rfl | he
  · exact h
  · exact r e he


theorem rg_ok {A : Ann} {kb : Nat} {kd : IntKind} {g : Operand} {t1 t2 s d rid : Nat} {o : Oper} {body c : Code} {id : Nat} {round : Int → Nat → tysP A.ps → Option (tysO A.ps)} {merge : tysP A.ps → tysO A.ps → tysP A.ps} {outs : tysP A.ps → tysO A.ps} (hE : TabOK V E)
    (hback : BackOK V.P kb kd) (hp : pick id (allLoops c) = .rangeFunc g #[t1, t2] (.region rid #[o] false) body) (ho : o.op = .assign (.tmp s)) (hd : o.dst = some d) (hgd : o.guard = none)
    (hround : ∀ v i y, roundRun E A t1 t2 s d kd body v i y = round v i y) (hmerge : ∀ y o, mergeRun A y o = some (merge y o))
    (hdec : ∀ y, (decArgs (lift A.ps (encVals A.ps y 0 (cntK A.ps)) (rowsIn A.ps y)).2 [] A.ps (lift A.ps (encVals A.ps y 0 (cntK A.ps)) (rowsIn A.ps y)).1).bind (fun r => some r.1) = some y)
    (hslot : ∀ y, (A.slots.map fun t => (encSt A y).tmps.getD t .any) = encVals A.ps y 0 (cntK A.ps)) (hog : A.og = List.range (cntK A.ps)) (houts : ∀ y, finQ E [] A.ps [] (encSt A y) = some ((), outs y)) :
    (LE.raw id (rangeF A kb kd g (fun v i y => (round v i y).bind fun o => some (merge y o)) outs)).OK V E c := fun Γ ro hg h0 hro hin => by
  rw [hp] at hro hin ⊢
  obtain rfl : ro = none := hro.elim (fun h => h) fun h => by cases h
  exact range_ok hE hg h0 hback ho hd hgd (fun l Γ' hg' h0' => hin (some l) rfl Γ' hg' h0') hround hmerge hdec hslot hog houts

abbrev FL := List (Nat × Option Nat × Callee)

structure Fs (P : Program) (V : Env) (l : FL) : Prop where
  prog : V.P = P
  all : FnAll V l
theorem Fs.cons {P : Program} {l : FL} (h : Fs P V l) {k : Nat} {s : Option Nat} {C : Callee} (g : Good V k C) : Fs P V ((k, s, C) :: l) := ⟨h.prog, fnCons g h.all⟩

noncomputable def mkE (ti : List (Nat × TI)) (fl : FL) (ls : List LE) (lit : List Nat) (pr : List (Nat × List Nat × List Nat)) (bk : List (Nat × Nat)) : Tab := ⟨look ti, lookC fl, lookE ls, lit, pr, bk⟩

def fnChk (fn : Func) (C : Callee) (ls : List LE) : Bool := fn.body.isSome && !(fn.name == "runtime.NumGoroutine") && Nat.ble C.ps.length fn.ntmps && flat2 (fb fn) && loopsChk (fb fn) ls

theorem mkE_ok {P : Program} {ti : List (Nat × TI)} {fl : FL} {ls : List LE} {lit : List Nat} {pr : List (Nat × List Nat × List Nat)} {bk : List (Nat × Nat)} (h : Fs P V fl) (hti : TiAll P ti) (hbk : BkAll P bk) : TabOK V (mkE ti fl ls lit pr bk) := ⟨h.prog ▸ hti, h.all, h.prog ▸ hbk⟩

theorem gd {P : Program} {ti : List (Nat × TI)} {fl : FL} (ls : List LE) (lit : List Nat) (pr : List (Nat × List Nat × List Nat)) {bk : List (Nat × Nat)} {k : Nat} {fn : Func} {C : Callee} (h : Fs P V fl) (hti : TiAll P ti) (hbk : BkAll P bk) (hf : P.funcs[k]? = some fn) (hc : fnChk fn C ls = true)
    (hls : TabOK V (mkE ti fl ls lit pr bk) → LsOK V (mkE ti fl ls lit pr bk) (fb fn) ls) (hr : ∀ x, fnRun (mkE ti fl ls lit pr bk) fn.ntmps fn.results.toList (fb fn) C.ps C.rk x = C.g x) : Good V k C := by
  simp only [fnChk, Bool.and_eq_true, Bool.not_eq_true'] at hc
  obtain ⟨⟨⟨⟨h1, h2⟩, h3⟩, h4⟩, h5⟩ := hc
  have hb : fn.body = some (fb fn) := by
    unfold fb
    cases hh : fn.body with
    | none => rw [hh] at h1; cases h1
    | some c => rfl
  have hE := mkE_ok (ls := ls) (lit := lit) (pr := pr) h hti hbk
  exact good_of hE (h.prog ▸ hf) hb h2 (Nat.le_of_ble_eq_true h3) (fun Γ hg h0 => inner_ok hE (fun _ => rfl) h5 (hls hE) (fb fn) (fun _ h => h) none (.inl ⟨rfl, h4⟩) Γ hg h0) hr
end
end Go.AM
end
section
namespace Go.AM.Num

def strings_Cut (s sep : List UInt8) : Option ((List UInt8 × List UInt8 × Bool × Unit) × Unit) :=
  if s.length < 4294967281 then some (((Lib.cut s sep).1, (Lib.cut s sep).2.1, (Lib.cut s sep).2.2, ()), ()) else none
def strings_CutPrefix (s p : List UInt8) : Option ((List UInt8 × Bool × Unit) × Unit) := some ((Lib.trimPrefix s p, Lib.hasPrefix s p, ()), ())
def strings_Cut_C : Callee := ⟨[.val .str, .val .str], [.val .str, .val .str, .val .bool], fun x => strings_Cut x.1 x.2.1⟩
def strings_CutPrefix_C : Callee := ⟨[.val .str, .val .str], [.val .str, .val .bool], fun x => strings_CutPrefix x.1 x.2.1⟩
def in64 (n : Int) : Prop := -9223372036854775808 ≤ n ∧ n ≤ 9223372036854775807
instance (n : Int) : Decidable (in64 n) := by unfold in64; infer_instance
def strconv_FormatInt (n b : Int) : Option ((List UInt8 × Unit) × Unit) := if in64 n ∧ b = 10 then some ((Lib.itoa n, ()), ()) else none
def strconv_FormatInt_C : Callee := ⟨[.val (.int .i64), .val (.int .i64)], [.val .str], fun x => strconv_FormatInt x.1 x.2.1⟩
def strconv_FormatUint (n b : Int) : Option ((List UInt8 × Unit) × Unit) := if 0 ≤ n ∧ n ≤ 18446744073709551615 ∧ b = 10 then some ((Lib.decDigits n.toNat, ()), ()) else none
def strconv_FormatUint_C : Callee := ⟨[.val (.int .u64), .val (.int .i64)], [.val .str], fun x => strconv_FormatUint x.1 x.2.1⟩
def strconv_ParseInt (s : List UInt8) (b w : Int) : Option ((Int × Bool × Unit) × Unit) :=
  if b = 10 ∧ w = 64 ∧ s.length ≤ 281474976710656 then
    match Lib.parseIntB 64 s with
    | .ok v => some ((v, false, ()), ())
    | _ => none
  else none
def strconv_ParseInt_C : Callee := ⟨[.val .str, .val (.int .i64), .val (.int .i64)], [.val (.int .i64), .val .err], fun x => strconv_ParseInt x.1 x.2.1 x.2.2.1⟩

def slices_Clone_string_string (s : List (List UInt8)) : Option ((List (List UInt8) × Unit) × Unit) := grd (decide (s.length ≤ maxN)) (some ((s, ()), ()))
def slices_Clone_string_string_C : Callee := ⟨[.val (.sl .str)], [.own .str], fun x => slices_Clone_string_string x.1⟩
def slices_Delete_string_string (s : List (List UInt8)) (i j : Int) : Option ((Nat × Unit) × (List (List UInt8) × Unit)) :=
  grd (decide (0 ≤ i) && decide (i ≤ j) && decide (j ≤ s.length)) (some ((s.length - (j.toNat - i.toNat), ()), (s.take i.toNat ++ s.drop j.toNat ++ List.replicate (j.toNat - i.toNat) [], ())))
def slices_Delete_string_string_C : Callee := ⟨[.row .str, .val (.int .i64), .val (.int .i64)], [.view 0], fun x => slices_Delete_string_string x.1 x.2.1 x.2.2.1⟩
def slices_Insert_string_string (s : List (List UInt8)) (i : Int) (v : List (List UInt8)) : Option ((List (List UInt8) × Unit) × Unit) :=
  grd (decide (0 ≤ i) && decide (i ≤ s.length) && decide (s.length + v.length ≤ maxN) && decide (0 < v.length)) (some ((s.take i.toNat ++ v ++ s.drop i.toNat, ()), ()))
def slices_Insert_string_string_C : Callee := ⟨[.own .str, .val (.int .i64), .val (.sl .str)], [.own .str], fun x => slices_Insert_string_string x.1 x.2.1 x.2.2.1⟩
def strings_Builder_String (b : Unit × List Int) : Option ((List UInt8 × Unit) × Unit) := grd (decide (0 < b.2.length)) (some ((b.2.map fun n => UInt8.ofNat n.toNat, ()), ()))
def strings_Builder_String_C : Callee := ⟨[.obj (.box (.pair .slf (.own (.int .u8))))], [.val .str], fun x => strings_Builder_String x.1⟩
def strings_Builder_copyCheck (b : Unit × List Int) : Option (Unit × ((Unit × List Int) × Unit)) := some ((), (b, ()))
def strings_Builder_copyCheck_C : Callee := ⟨[.box (.pair .slf (.own (.int .u8)))], [], fun x => strings_Builder_copyCheck x.1⟩
end Go.AM.Num
end
section
namespace Go.AM.Num
set_option maxRecDepth 100000
set_option linter.unusedVariables false
noncomputable section
def big : Nat := 2 ^ 64
@[reducible] def gVr : GT := (.pair .str (.int .i64))
abbrev Vr := (List UInt8) × Int
abbrev zVr : Vr := (([] : List UInt8), (0 : Int))
@[reducible] def gSml : GT := (.pair (.int .i64) (.int .i64))
abbrev Sml := Int × Int
@[reducible] def gChoices : GT := (.pair (.sl (.int .i64)) (.int .i64))
abbrev Choices := (List Int) × Int
@[reducible] def gRt : GT := (.pair .bool (.pair (.sl (.int .u32)) (.sl (.int .u32))))
abbrev Rt := Bool × (List Int) × List Int
@[reducible] def gNod : GT := (.pair (.int .i64) (.pair (.int .i64) (.pair .str gVr)))
abbrev Nod := Int × Int × (List UInt8) × Vr
abbrev zNod : Nod := ((0 : Int), (0 : Int), ([] : List UInt8), ([] : List UInt8), (0 : Int))
@[reducible] def gVal : GT := (.pair (.int .i64) (.pair .bool (.pair .str (.pair (.sl .str) (.sl .str)))))
abbrev Val := Int × Bool × (List UInt8) × (List (List UInt8)) × List (List UInt8)
abbrev zVal : Val := ((0 : Int), false, ([] : List UInt8), ([] : List (List UInt8)), ([] : List (List UInt8)))
@[reducible] def gBind : GT := (.pair .str gVal)
abbrev Bind := (List UInt8) × Val
abbrev zBind : Bind := (([] : List UInt8), (0 : Int), false, ([] : List UInt8), ([] : List (List UInt8)), ([] : List (List UInt8)))
@[reducible] def gView : GT := (.pair (.sl gNod) (.sl (.pair (.int .i64) gSml)))
abbrev View := (List Nod) × List (Int × Sml)
abbrev zView : View := (([] : List Nod), ([] : List (Int × Sml)))
@[reducible] def gInterp : GT := (.pair .str (.pair (.sl (.sl gVal)) (.pair (.sl gVal) gVal)))
abbrev Interp := (List UInt8) × (List (List Val)) × (List Val) × Val
abbrev zInterp : Interp := (([] : List UInt8), ([] : List (List Val)), ([] : List Val), (0 : Int), false, ([] : List UInt8), ([] : List (List UInt8)), ([] : List (List UInt8)))
@[reducible] def gEvl : GT := (.pair (.sl gNod) (.pair (.int .i64) (.pair (.map gVal) (.map gInterp))))
abbrev Evl := (List Nod) × Int × (List (List UInt8 × Val)) × List (List UInt8 × Interp)
def v_Zero (sort0 : Int) : Option ((Val × Int × Unit) × Unit) :=
  cond (sort0 == (1 : Int))
    (some (((sort0, false, ([] : List UInt8), ([] : List (List UInt8)), ([] : List (List UInt8))), 0, ()), ()))
    (cond (sort0 == (2 : Int))
      (some (((sort0, false, ([48] : List UInt8), ([] : List (List UInt8)), ([] : List (List UInt8))), 0, ()), ()))
      (cond (sort0 == (3 : Int))
        (some (((sort0, false, ([48] : List UInt8), ([] : List (List UInt8)), ([] : List (List UInt8))), 0, ()), ()))
        (cond (sort0 == (4 : Int))
          (some (((sort0, false, ([48] : List UInt8), ([] : List (List UInt8)), ([] : List (List UInt8))), 0, ()), ()))
          (some ((((0 : Int), false, ([] : List UInt8), ([] : List (List UInt8)), ([] : List (List UInt8))), 1, ()), ())))))
def r_sorted (s0 : Int) : Option ((Bool × Unit) × Unit) :=
  cond (decide (s0 ≥ (1 : Int)))
    (some ((decide (s0 ≤ (4 : Int)), ()), ()))
    (some ((false, ()), ()))
def r_Zero (sort0 : Int) : Option ((Val × Int × Unit) × Unit) :=
  (r_sorted sort0).bind fun r1 =>
  cond (!r1.1.1)
    (some ((((0 : Int), false, ([] : List UInt8), ([] : List (List UInt8)), ([] : List (List UInt8))), 1, ()), ()))
    (cond (sort0 == (1 : Int))
      (some (((sort0, false, ([] : List UInt8), ([] : List (List UInt8)), ([] : List (List UInt8))), 0, ()), ()))
      (some (((sort0, false, ([48] : List UInt8), ([] : List (List UInt8)), ([] : List (List UInt8))), 0, ()), ())))
def g_Mod (v0 : Int) (n1 : Int) : Option ((Int × Unit) × Unit) :=
  grd ((IntKind.u64.wrap (n1)) != 0) (some ((IntKind.i64.wrap ((IntKind.u64.wrap (v0)).tmod (IntKind.u64.wrap (n1))), ()), ()))
def r_equalTexts_s4 (x : (List (List UInt8)) × (List (List UInt8)) × Bool × Int × Unit) : Option (Ex × ((List (List UInt8)) × (List (List UInt8)) × Bool × Int × Unit)) :=
  let a0 := x.1
  let b1 := x.2.1
  let t4 := x.2.2.1
  let i5 := x.2.2.2.1
  cond (decide (i5 < (a0.length : Int)))
    (grd (decide (0 ≤ i5) && decide (i5 < a0.length)) (
      grd (decide (0 ≤ i5) && decide (i5 < b1.length)) (
        cond (!((a0.getD i5.toNat ([] : List UInt8)) == (b1.getD i5.toNat ([] : List UInt8))))
          (some (Ex.ret, (a0, b1, false, i5, ())))
          (some (Ex.normal, (a0, b1, t4, IntKind.i64.wrap (i5 + (1 : Int)), ()))))))
    (some (Ex.exit 0, (a0, b1, t4, i5, ())))
def r_equalTexts (a0 : List (List UInt8)) (b1 : List (List UInt8)) : Option ((Bool × Unit) × Unit) :=
  cond ((a0.length : Int) != (b1.length : Int))
    (some ((false, ()), ()))
    ((loopO r_equalTexts_s4 (a0, b1, false, 0, ())).bind fun y1 =>
    cond (Ex.same y1.1 (Ex.exit 0))
      (some ((true, ()), ()))
      (cond (Ex.same y1.1 Ex.ret)
        (some ((y1.2.2.2.1, ()), ()))
        (none)))
def r_EqualValue (a0 : Val) (b1 : Val) : Option ((Bool × Unit) × Unit) :=
  cond (a0.1 == b1.1)
    (cond (a0.2.1 == b1.2.1)
      (cond (a0.2.2.1 == b1.2.2.1)
        ((r_equalTexts a0.2.2.2.1 b1.2.2.2.1).bind fun r1 =>
        cond (r1.1.1)
          ((r_equalTexts a0.2.2.2.2 b1.2.2.2.2).bind fun r2 =>
          some ((r2.1.1, ()), ()))
          (some ((false, ()), ())))
        (some ((false, ()), ())))
      (some ((false, ()), ())))
    (some ((false, ()), ()))
def v_simple (v0 : Val) : Option ((Bool × Unit) × Unit) :=
  cond ((v0.2.2.2.1.length : Int) == (0 : Int))
    (some (((v0.2.2.2.2.length : Int) == (0 : Int), ()), ()))
    (some ((false, ()), ()))
def n_numeral_s2 (x : (List UInt8) × Bool × (List Int) × Int × Int × Unit) : Option (Ex × ((List UInt8) × Bool × (List Int) × Int × Int × Unit)) :=
  let s0 := x.1
  let t2 := x.2.1
  let t6 := x.2.2.1
  let t7 := x.2.2.2.1
  let t8 := x.2.2.2.2.1
  cond (decide (t8 < t7))
    (grd (decide (0 ≤ t8) && decide (t8 < t6.length)) (
      cond (decide ((t6.getD t8.toNat (0 : Int)) < (48 : Int)))
        (some (Ex.ret, (s0, false, t6, t7, t8, ())))
        (cond (decide ((t6.getD t8.toNat (0 : Int)) > (57 : Int)))
          (some (Ex.ret, (s0, false, t6, t7, t8, ())))
          (some (Ex.normal, (s0, t2, t6, t7, IntKind.i64.wrap (t8 + (1 : Int)), ()))))))
    (some (Ex.exit 0, (s0, t2, t6, t7, t8, ())))
def n_numeral (s0 : List UInt8) : Option ((Bool × Unit) × Unit) :=
  (loopO n_numeral_s2 (s0, false, s0.map fun b => (b.toNat : Int), ((s0.map fun b => (b.toNat : Int)).length : Int), 0, ())).bind fun y1 =>
  cond (Ex.same y1.1 (Ex.exit 0))
    (cond (y1.2.1 == ([48] : List UInt8))
      (some ((true, ()), ()))
      (cond (!(y1.2.1 == ([] : List UInt8)))
        (grd (decide (0 ≤ (0 : Int)) && decide ((0 : Int) < y1.2.1.length)) (some ((((y1.2.1.getD (0 : Int).toNat 0).toNat : Int) != (48 : Int), ()), ())))
        (some ((false, ()), ()))))
    (cond (Ex.same y1.1 Ex.ret)
      (some ((y1.2.2.1, ()), ()))
      (none))
def n_IsInt (a0 : List UInt8) : Option ((Bool × Unit) × Unit) :=
  (strings_CutPrefix a0 ([45] : List UInt8)).bind fun r1 =>
  (n_numeral r1.1.1).bind fun r2 =>
  cond (r2.1.1)
    (cond (r1.1.2.1)
      (some ((!(r1.1.1 == ([48] : List UInt8)), ()), ()))
      (some ((true, ()), ())))
    (some ((false, ()), ()))
def n_divisor_s1 (x : Int × Int × Unit) : Option (Ex × (Int × Int × Unit)) :=
  let a0 := x.1
  let b1 := x.2.1
  cond (b1 != (0 : Int))
    (grd (b1 != 0) (some (Ex.normal, (b1, a0.tmod b1, ()))))
    (some (Ex.exit 0, (a0, b1, ())))
def n_divisor (a0 : Int) (b1 : Int) : Option ((Int × Unit) × Unit) :=
  (loopO n_divisor_s1 (a0, b1, ())).bind fun y1 =>
  cond (Ex.same y1.1 (Ex.exit 0))
    (some ((y1.2.1, ()), ()))
    (none)
def n_smallOf (a0 : List UInt8) : Option ((Sml × Bool × Unit) × Unit) :=
  (strings_CutPrefix a0 ([45] : List UInt8)).bind fun r1 =>
  (strings_Cut r1.1.1 ([47] : List UInt8)).bind fun r2 =>
  cond (decide ((r2.1.1.length : Int) > (9 : Int)))
    (some ((((0 : Int), (0 : Int)), false, ()), ()))
    (cond (decide ((r2.1.2.1.length : Int) > (9 : Int)))
      (some ((((0 : Int), (0 : Int)), false, ()), ()))
      ((n_numeral r2.1.1).bind fun r3 =>
      cond (!r3.1.1)
        (some ((((0 : Int), (0 : Int)), false, ()), ()))
        (cond (r2.1.1 == ([48] : List UInt8))
          (cond (r1.1.2.1)
            (some ((((0 : Int), (0 : Int)), false, ()), ()))
            (cond (r2.1.2.2.1)
              (some ((((0 : Int), (0 : Int)), false, ()), ()))
              ((strconv_ParseInt r2.1.1 10 64).bind fun r4 =>
              cond (r2.1.2.2.1)
                ((n_numeral r2.1.2.1).bind fun r5 =>
                cond (!r5.1.1)
                  (some ((((0 : Int), (0 : Int)), false, ()), ()))
                  ((strconv_ParseInt r2.1.2.1 10 64).bind fun r6 =>
                  cond (decide (r6.1.1 < (2 : Int)))
                    (some ((((0 : Int), (0 : Int)), false, ()), ()))
                    ((n_divisor r4.1.1 r6.1.1).bind fun r7 =>
                    cond (r7.1.1 != (1 : Int))
                      (some ((((0 : Int), (0 : Int)), false, ()), ()))
                      (cond (r1.1.2.1)
                        (some (((IntKind.i64.wrap (0 - r4.1.1), r6.1.1), true, ()), ()))
                        (some (((r4.1.1, r6.1.1), true, ()), ()))))))
                (cond (r1.1.2.1)
                  (some (((IntKind.i64.wrap (0 - r4.1.1), 1), true, ()), ()))
                  (some (((r4.1.1, 1), true, ()), ()))))))
          ((strconv_ParseInt r2.1.1 10 64).bind fun r8 =>
          cond (r2.1.2.2.1)
            ((n_numeral r2.1.2.1).bind fun r9 =>
            cond (!r9.1.1)
              (some ((((0 : Int), (0 : Int)), false, ()), ()))
              ((strconv_ParseInt r2.1.2.1 10 64).bind fun r10 =>
              cond (decide (r10.1.1 < (2 : Int)))
                (some ((((0 : Int), (0 : Int)), false, ()), ()))
                ((n_divisor r8.1.1 r10.1.1).bind fun r11 =>
                cond (r11.1.1 != (1 : Int))
                  (some ((((0 : Int), (0 : Int)), false, ()), ()))
                  (cond (r1.1.2.1)
                    (some (((IntKind.i64.wrap (0 - r8.1.1), r10.1.1), true, ()), ()))
                    (some (((r8.1.1, r10.1.1), true, ()), ()))))))
            (cond (r1.1.2.1)
              (some (((IntKind.i64.wrap (0 - r8.1.1), 1), true, ()), ()))
              (some (((r8.1.1, 1), true, ()), ())))))))
def n_nat_trim_s2 (x : (List Int) × Int × Unit) : Option (Ex × ((List Int) × Int × Unit)) :=
  let a0 := x.1
  let n3 := x.2.1
  cond (decide (n3 > (0 : Int)))
    (grd (decide (0 ≤ IntKind.i64.wrap (n3 - (1 : Int))) && decide (IntKind.i64.wrap (n3 - (1 : Int)) < a0.length)) (
      cond ((a0.getD (IntKind.i64.wrap (n3 - (1 : Int))).toNat (0 : Int)) == (0 : Int))
        (some (Ex.normal, (a0, IntKind.i64.wrap (n3 - (1 : Int)), ())))
        (some (Ex.exit 0, (a0, n3, ())))))
    (some (Ex.exit 0, (a0, n3, ())))
def n_nat_trim (a0 : List Int) : Option (((List Int) × Unit) × Unit) :=
  (loopO n_nat_trim_s2 (a0, (a0.length : Int), ())).bind fun y1 =>
  cond (Ex.same y1.1 (Ex.exit 0))
    (grd (decide (0 ≤ y1.2.2.1) && decide (y1.2.2.1 ≤ y1.2.1.length)) (some ((y1.2.1.take y1.2.2.1.toNat, ()), ())))
    (none)
def n_natOf_s7 (x : (List UInt8) × (List Int) × Int × Int × (List Int) × Int × Int × Unit) : Option (Ex × ((List UInt8) × (List Int) × Int × Int × (List Int) × Int × Int × Unit)) :=
  let s0 := x.1
  let out3 := x.2.1
  let end4 := x.2.2.1
  let v5 := x.2.2.2.1
  let t20 := x.2.2.2.2.1
  let t21 := x.2.2.2.2.2.1
  let t22 := x.2.2.2.2.2.2.1
  cond (decide (t22 < t21))
    (grd (decide (0 ≤ t22) && decide (t22 < t20.length)) (some (Ex.normal, (s0, out3, end4, IntKind.u32.wrap ((IntKind.u32.wrap (v5 * (10 : Int))) + (IntKind.u32.wrap (IntKind.u8.wrap ((t20.getD t22.toNat (0 : Int)) - (48 : Int))))), t20, t21, IntKind.i64.wrap (t22 + (1 : Int)), ()))))
    (some (Ex.exit 2, (s0, out3, end4, v5, t20, t21, t22, ())))
def n_natOf_s3 (x : (List UInt8) × (List Int) × Int × Unit) : Option (Ex × ((List UInt8) × (List Int) × Int × Unit)) :=
  let s0 := x.1
  let out3 := x.2.1
  let end4 := x.2.2.1
  cond (decide (end4 > (0 : Int)))
    (grd (decide (0 ≤ maxA (IntKind.i64.wrap (end4 - (9 : Int))) (0 : Int)) && decide (maxA (IntKind.i64.wrap (end4 - (9 : Int))) (0 : Int) ≤ end4) && decide (end4 ≤ s0.length)) (
      (loopO n_natOf_s7 (s0, out3, end4, 0, ((s0.take end4.toNat).drop (maxA (IntKind.i64.wrap (end4 - (9 : Int))) (0 : Int)).toNat).map fun b => (b.toNat : Int), ((((s0.take end4.toNat).drop (maxA (IntKind.i64.wrap (end4 - (9 : Int))) (0 : Int)).toNat).map fun b => (b.toNat : Int)).length : Int), 0, ())).bind fun y1 =>
      cond (Ex.same y1.1 (Ex.exit 2))
        (grd (decide (y1.2.2.1.length + ([y1.2.2.2.2.1] : List Int).length ≤ maxN)) (some (Ex.normal, (y1.2.1, y1.2.2.1 ++ ([y1.2.2.2.2.1] : List Int), IntKind.i64.wrap (y1.2.2.2.1 - (9 : Int)), ()))))
        (none)))
    (some (Ex.exit 0, (s0, out3, end4, ())))
def n_natOf (s0 : List UInt8) : Option (((List Int) × Unit) × Unit) :=
  (loopO n_natOf_s3 (s0, ([] : List Int), (s0.length : Int), ())).bind fun y1 =>
  cond (Ex.same y1.1 (Ex.exit 0))
    ((n_nat_trim y1.2.2.1).bind fun r2 =>
    some ((r2.1.1, ()), ()))
    (none)
def n_nat_cmp_s4 (x : (List Int) × (List Int) × Int × Int × Unit) : Option (Ex × ((List Int) × (List Int) × Int × Int × Unit)) :=
  let a0 := x.1
  let b1 := x.2.1
  let t4 := x.2.2.1
  let i5 := x.2.2.2.1
  cond (decide (i5 ≥ (0 : Int)))
    (grd (decide (0 ≤ i5) && decide (i5 < a0.length)) (
      grd (decide (0 ≤ i5) && decide (i5 < b1.length)) (
        cond ((a0.getD i5.toNat (0 : Int)) != (b1.getD i5.toNat (0 : Int)))
          (grd (decide (0 ≤ i5) && decide (i5 < a0.length)) (grd (decide (0 ≤ i5) && decide (i5 < b1.length)) (some (Ex.ret, (a0, b1, IntKind.i64.wrap ((IntKind.i64.wrap (a0.getD i5.toNat (0 : Int))) - (IntKind.i64.wrap (b1.getD i5.toNat (0 : Int)))), i5, ())))))
          (some (Ex.normal, (a0, b1, t4, IntKind.i64.wrap (i5 - (1 : Int)), ()))))))
    (some (Ex.exit 0, (a0, b1, t4, i5, ())))
def n_nat_cmp (a0 : List Int) (b1 : List Int) : Option ((Int × Unit) × Unit) :=
  cond ((a0.length : Int) != (b1.length : Int))
    (some ((IntKind.i64.wrap ((a0.length : Int) - (b1.length : Int)), ()), ()))
    ((loopO n_nat_cmp_s4 (a0, b1, 0, IntKind.i64.wrap ((a0.length : Int) - (1 : Int)), ())).bind fun y1 =>
    cond (Ex.same y1.1 (Ex.exit 0))
      (some ((0, ()), ()))
      (cond (Ex.same y1.1 Ex.ret)
        (some ((y1.2.2.2.1, ()), ()))
        (none)))
def n_nat_quoLimb_s4 (x : (List Int) × Int × (List Int) × Int × Int × Unit) : Option (Ex × ((List Int) × Int × (List Int) × Int × Int × Unit)) :=
  let a0 := x.1
  let b1 := x.2.1
  let q6 := x.2.2.1
  let rest7 := x.2.2.2.1
  let i8 := x.2.2.2.2.1
  cond (decide (i8 ≥ (0 : Int)))
    (grd (decide (0 ≤ i8) && decide (i8 < a0.length)) (grd ((IntKind.u64.wrap (b1)) != 0) (grd ((IntKind.u64.wrap (b1)) != 0) (grd (decide (0 ≤ i8) && decide (i8 < q6.length)) (grd (decide (i8.toNat < q6.length)) (some (Ex.normal, (a0, b1, q6.set i8.toNat (IntKind.u32.wrap (IntKind.u64.wrap ((IntKind.u64.wrap ((IntKind.u64.wrap (rest7 * (1000000000 : Int))) + (IntKind.u64.wrap (a0.getD i8.toNat (0 : Int))))).tdiv (IntKind.u64.wrap (b1))))), (IntKind.u64.wrap ((IntKind.u64.wrap (rest7 * (1000000000 : Int))) + (IntKind.u64.wrap (a0.getD i8.toNat (0 : Int))))).tmod (IntKind.u64.wrap (b1)), IntKind.i64.wrap (i8 - (1 : Int)), ()))))))))
    (some (Ex.exit 0, (a0, b1, q6, rest7, i8, ())))
def n_nat_quoLimb (a0 : List Int) (b1 : Int) : Option (((List Int) × (List Int) × Unit) × Unit) :=
  grd (decide (0 ≤ (a0.length : Int)) && decide ((a0.length : Int) ≤ (a0.length : Int)) && decide ((a0.length : Int) ≤ maxN)) (
    (loopO n_nat_quoLimb_s4 (a0, b1, List.replicate (a0.length : Int).toNat (0 : Int), 0, IntKind.i64.wrap ((a0.length : Int) - (1 : Int)), ())).bind fun y1 =>
    cond (Ex.same y1.1 (Ex.exit 0))
      ((n_nat_trim y1.2.2.2.1).bind fun r2 =>
      (n_nat_trim ([IntKind.u32.wrap (y1.2.2.2.2.1)] : List Int)).bind fun r3 =>
      some ((r2.1.1, r3.1.1, ()), ()))
      (none))
def n_nat_trim_v_s2 (x : (List Int) × Int × Unit) : Option (Ex × ((List Int) × Int × Unit)) :=
  let a0 := x.1
  let n3 := x.2.1
  cond (decide (n3 > (0 : Int)))
    (grd (decide (0 ≤ IntKind.i64.wrap (n3 - (1 : Int))) && decide (IntKind.i64.wrap (n3 - (1 : Int)) < a0.length)) (
      grd (decide ((IntKind.i64.wrap (n3 - (1 : Int))).toNat < a0.length)) (
        cond ((a0.getD ((IntKind.i64.wrap (n3 - (1 : Int))).toNat) (0 : Int)) == (0 : Int))
          (some (Ex.normal, (a0, IntKind.i64.wrap (n3 - (1 : Int)), ())))
          (some (Ex.exit 0, (a0, n3, ()))))))
    (some (Ex.exit 0, (a0, n3, ())))
def n_nat_trim_v (a0 : List Int) : Option ((Nat × Unit) × ((List Int) × Unit)) :=
  (loopO n_nat_trim_v_s2 (a0, (a0.length : Int), ())).bind fun y1 =>
  cond (Ex.same y1.1 (Ex.exit 0))
    (grd (decide (0 ≤ y1.2.2.1) && decide (y1.2.2.1 ≤ y1.2.1.length)) (some ((y1.2.2.1.toNat, ()), y1.2.1, ())))
    (none)
def n_nat_mul_r_s7 (x : (List Int) × (List Int) × Int × Int × Int × (List Int) × Int × Int × (List Int) × Int × Int × Unit) : Option (Ex × ((List Int) × (List Int) × Int × Int × Int × (List Int) × Int × Int × (List Int) × Int × Int × Unit)) :=
  let b1 := x.1
  let out5 := x.2.1
  let i6 := x.2.2.1
  let x7 := x.2.2.2.1
  let carry8 := x.2.2.2.2.1
  let t18 := x.2.2.2.2.2.1
  let t19 := x.2.2.2.2.2.2.1
  let t20 := x.2.2.2.2.2.2.2.1
  let t25 := x.2.2.2.2.2.2.2.2.1
  let t26 := x.2.2.2.2.2.2.2.2.2.1
  let t27 := x.2.2.2.2.2.2.2.2.2.2.1
  cond (decide (t27 < t26))
    (grd (decide (0 ≤ t27) && decide (t27 < t25.length)) (grd (decide (0 ≤ IntKind.i64.wrap (i6 + t27)) && decide (IntKind.i64.wrap (i6 + t27) < out5.length)) (grd (decide ((IntKind.i64.wrap (i6 + t27)).toNat < out5.length)) (grd ((1000000000 : Int) != 0) (grd ((1000000000 : Int) != 0) (grd (decide (0 ≤ IntKind.i64.wrap (i6 + t27)) && decide (IntKind.i64.wrap (i6 + t27) < out5.length)) (grd (decide ((IntKind.i64.wrap (i6 + t27)).toNat < out5.length)) (some (Ex.normal, (b1, out5.set ((IntKind.i64.wrap (i6 + t27)).toNat) (IntKind.u32.wrap ((IntKind.u64.wrap ((IntKind.u64.wrap ((IntKind.u64.wrap (out5.getD ((IntKind.i64.wrap (i6 + t27)).toNat) (0 : Int))) + (IntKind.u64.wrap ((IntKind.u64.wrap (x7)) * (IntKind.u64.wrap (t25.getD t27.toNat (0 : Int))))))) + carry8)).tmod 1000000000)), i6, x7, IntKind.u64.wrap ((IntKind.u64.wrap ((IntKind.u64.wrap ((IntKind.u64.wrap (out5.getD ((IntKind.i64.wrap (i6 + t27)).toNat) (0 : Int))) + (IntKind.u64.wrap ((IntKind.u64.wrap (x7)) * (IntKind.u64.wrap (t25.getD t27.toNat (0 : Int))))))) + carry8)).tdiv 1000000000), t18, t19, t20, t25, t26, IntKind.i64.wrap (t27 + (1 : Int)), ()))))))))))
    (some (Ex.exit 2, (b1, out5, i6, x7, carry8, t18, t19, t20, t25, t26, t27, ())))
def n_nat_mul_r_s3 (x : (List Int) × (List Int) × (List Int) × Int × Int × Unit) : Option (Ex × ((List Int) × (List Int) × (List Int) × Int × Int × Unit)) :=
  let b1 := x.1
  let out5 := x.2.1
  let t18 := x.2.2.1
  let t19 := x.2.2.2.1
  let t20 := x.2.2.2.2.1
  cond (decide (t20 < t19))
    (grd (decide (0 ≤ t20) && decide (t20 < t18.length)) (
      (loopO n_nat_mul_r_s7 (b1, out5, t20, t18.getD t20.toNat (0 : Int), 0, t18, t19, t20, b1, (b1.length : Int), 0, ())).bind fun y1 =>
      cond (Ex.same y1.1 (Ex.exit 2))
        (grd (decide (0 ≤ IntKind.i64.wrap (y1.2.2.2.1 + (y1.2.1.length : Int))) && decide (IntKind.i64.wrap (y1.2.2.2.1 + (y1.2.1.length : Int)) < y1.2.2.1.length)) (grd (decide ((IntKind.i64.wrap (y1.2.2.2.1 + (y1.2.1.length : Int))).toNat < y1.2.2.1.length)) (some (Ex.normal, (y1.2.1, y1.2.2.1.set ((IntKind.i64.wrap (y1.2.2.2.1 + (y1.2.1.length : Int))).toNat) (IntKind.u32.wrap (y1.2.2.2.2.2.1)), y1.2.2.2.2.2.2.1, y1.2.2.2.2.2.2.2.1, IntKind.i64.wrap (y1.2.2.2.2.2.2.2.2.1 + (1 : Int)), ())))))
        (none)))
    (some (Ex.exit 0, (b1, out5, t18, t19, t20, ())))
def n_nat_mul_r (a0 : List Int) (b1 : List Int) : Option (((List Int) × Unit) × Unit) :=
  grd (decide (0 ≤ IntKind.i64.wrap ((a0.length : Int) + (b1.length : Int))) && decide (IntKind.i64.wrap ((a0.length : Int) + (b1.length : Int)) ≤ IntKind.i64.wrap ((a0.length : Int) + (b1.length : Int))) && decide (IntKind.i64.wrap ((a0.length : Int) + (b1.length : Int)) ≤ maxN)) (
    (loopO n_nat_mul_r_s3 (b1, List.replicate (IntKind.i64.wrap ((a0.length : Int) + (b1.length : Int))).toNat (0 : Int), a0, (a0.length : Int), 0, ())).bind fun y1 =>
    cond (Ex.same y1.1 (Ex.exit 0))
      ((n_nat_trim_v y1.2.2.1).bind fun r2 =>
      some ((r2.2.1.take r2.1.1, ()), ()))
      (none))
def n_subtract_s3 (x : (List Int) × (List Int) × Int × Int × Int × Int × Int × Unit) : Option (Ex × ((List Int) × (List Int) × Int × Int × Int × Int × Int × Unit)) :=
  let u0 := x.1
  let v1 := x.2.1
  let times2 := x.2.2.1
  let carry7 := x.2.2.2.1
  let borrow8 := x.2.2.2.2.1
  let t12 := x.2.2.2.2.2.1
  let t13 := x.2.2.2.2.2.2.1
  cond (decide (t13 < t12))
    (cond (decide (t13 < (v1.length : Int)))
      (grd (decide (0 ≤ t13) && decide (t13 < v1.length)) (
        grd (decide (0 ≤ t13) && decide (t13 < u0.length)) (
          grd (decide (t13.toNat < u0.length)) (
            grd ((1000000000 : Int) != 0) (
              grd ((1000000000 : Int) != 0) (
                cond (decide ((IntKind.i64.wrap ((IntKind.i64.wrap ((IntKind.i64.wrap (u0.getD t13.toNat (0 : Int))) - borrow8)) - (IntKind.i64.wrap ((IntKind.u64.wrap (carry7 + (IntKind.u64.wrap (times2 * (IntKind.u64.wrap (v1.getD t13.toNat (0 : Int))))))).tmod 1000000000)))) < (0 : Int)))
                  (grd (decide (0 ≤ t13) && decide (t13 < u0.length)) (grd (decide (t13.toNat < u0.length)) (some (Ex.normal, (u0.set t13.toNat (IntKind.u32.wrap (IntKind.i64.wrap ((IntKind.i64.wrap ((IntKind.i64.wrap ((IntKind.i64.wrap (u0.getD t13.toNat (0 : Int))) - borrow8)) - (IntKind.i64.wrap ((IntKind.u64.wrap (carry7 + (IntKind.u64.wrap (times2 * (IntKind.u64.wrap (v1.getD t13.toNat (0 : Int))))))).tmod 1000000000)))) + (1000000000 : Int)))), v1, times2, IntKind.u64.wrap ((IntKind.u64.wrap (carry7 + (IntKind.u64.wrap (times2 * (IntKind.u64.wrap (v1.getD t13.toNat (0 : Int))))))).tdiv 1000000000), 1, t12, IntKind.i64.wrap (t13 + (1 : Int)), ())))))
                  (grd (decide (0 ≤ t13) && decide (t13 < u0.length)) (grd (decide (t13.toNat < u0.length)) (some (Ex.normal, (u0.set t13.toNat (IntKind.u32.wrap (IntKind.i64.wrap ((IntKind.i64.wrap ((IntKind.i64.wrap (u0.getD t13.toNat (0 : Int))) - borrow8)) - (IntKind.i64.wrap ((IntKind.u64.wrap (carry7 + (IntKind.u64.wrap (times2 * (IntKind.u64.wrap (v1.getD t13.toNat (0 : Int))))))).tmod 1000000000))))), v1, times2, IntKind.u64.wrap ((IntKind.u64.wrap (carry7 + (IntKind.u64.wrap (times2 * (IntKind.u64.wrap (v1.getD t13.toNat (0 : Int))))))).tdiv 1000000000), 0, t12, IntKind.i64.wrap (t13 + (1 : Int)), ())))))))))))
      (grd (decide (0 ≤ t13) && decide (t13 < u0.length)) (
        grd (decide (t13.toNat < u0.length)) (
          grd ((1000000000 : Int) != 0) (
            grd ((1000000000 : Int) != 0) (
              cond (decide ((IntKind.i64.wrap ((IntKind.i64.wrap ((IntKind.i64.wrap (u0.getD t13.toNat (0 : Int))) - borrow8)) - (IntKind.i64.wrap (carry7.tmod 1000000000)))) < (0 : Int)))
                (grd (decide (0 ≤ t13) && decide (t13 < u0.length)) (grd (decide (t13.toNat < u0.length)) (some (Ex.normal, (u0.set t13.toNat (IntKind.u32.wrap (IntKind.i64.wrap ((IntKind.i64.wrap ((IntKind.i64.wrap ((IntKind.i64.wrap (u0.getD t13.toNat (0 : Int))) - borrow8)) - (IntKind.i64.wrap (carry7.tmod 1000000000)))) + (1000000000 : Int)))), v1, times2, IntKind.u64.wrap (carry7.tdiv 1000000000), 1, t12, IntKind.i64.wrap (t13 + (1 : Int)), ())))))
                (grd (decide (0 ≤ t13) && decide (t13 < u0.length)) (grd (decide (t13.toNat < u0.length)) (some (Ex.normal, (u0.set t13.toNat (IntKind.u32.wrap (IntKind.i64.wrap ((IntKind.i64.wrap ((IntKind.i64.wrap (u0.getD t13.toNat (0 : Int))) - borrow8)) - (IntKind.i64.wrap (carry7.tmod 1000000000))))), v1, times2, IntKind.u64.wrap (carry7.tdiv 1000000000), 0, t12, IntKind.i64.wrap (t13 + (1 : Int)), ())))))))))))
    (some (Ex.exit 0, (u0, v1, times2, carry7, borrow8, t12, t13, ())))
def n_subtract (u0 : List Int) (v1 : List Int) (times2 : Int) : Option ((Bool × Unit) × ((List Int) × Unit)) :=
  (loopO n_subtract_s3 (u0, v1, times2, 0, 0, (u0.length : Int), 0, ())).bind fun y1 =>
  cond (Ex.same y1.1 (Ex.exit 0))
    (some ((decide (y1.2.2.2.2.2.1 > (0 : Int)), ()), y1.2.1, ()))
    (none)
def n_nat_at (a0 : List Int) (i1 : Int) : Option ((Int × Unit) × Unit) :=
  cond (decide (i1 ≥ (a0.length : Int)))
    (some ((0, ()), ()))
    (grd (decide (0 ≤ i1) && decide (i1 < a0.length)) (some ((a0.getD i1.toNat (0 : Int), ()), ())))
def n_restore_s2 (x : (List Int) × (List Int) × Int × Int × Int × Unit) : Option (Ex × ((List Int) × (List Int) × Int × Int × Int × Unit)) :=
  let u0 := x.1
  let v1 := x.2.1
  let carry4 := x.2.2.1
  let t8 := x.2.2.2.1
  let t9 := x.2.2.2.2.1
  cond (decide (t9 < t8))
    (grd (decide (0 ≤ t9) && decide (t9 < u0.length)) (
      grd (decide (t9.toNat < u0.length)) (
        (n_nat_at v1 t9).bind fun r1 =>
        grd ((1000000000 : Int) != 0) (grd ((1000000000 : Int) != 0) (grd (decide (0 ≤ t9) && decide (t9 < u0.length)) (grd (decide (t9.toNat < u0.length)) (some (Ex.normal, (u0.set t9.toNat ((IntKind.u32.wrap ((IntKind.u32.wrap ((u0.getD t9.toNat (0 : Int)) + r1.1.1)) + carry4)).tmod 1000000000), v1, IntKind.u32.wrap ((IntKind.u32.wrap ((IntKind.u32.wrap ((u0.getD t9.toNat (0 : Int)) + r1.1.1)) + carry4)).tdiv 1000000000), t8, IntKind.i64.wrap (t9 + (1 : Int)), ())))))))))
    (some (Ex.exit 0, (u0, v1, carry4, t8, t9, ())))
def n_restore (u0 : List Int) (v1 : List Int) : Option ((Unit) × ((List Int) × Unit)) :=
  (loopO n_restore_s2 (u0, v1, 0, (u0.length : Int), 0, ())).bind fun y1 =>
  cond (Ex.same y1.1 (Ex.exit 0))
    (some ((), y1.2.1, ()))
    (none)
def n_reduce_s4 (x : (List Int) × (List Int) × Int × Int × Int × Int × Unit) : Option (Ex × ((List Int) × (List Int) × Int × Int × Int × Int × Unit)) :=
  let u0 := x.1
  let v1 := x.2.1
  let n5 := x.2.2.1
  let first7 := x.2.2.2.1
  let guess8 := x.2.2.2.2.1
  let rest9 := x.2.2.2.2.2.1
  cond (decide (guess8 ≥ (1000000000 : Int)))
    (cond (decide ((IntKind.u64.wrap (rest9 + first7)) ≥ (1000000000 : Int)))
      (some (Ex.exit 0, (u0, v1, n5, first7, IntKind.u64.wrap (guess8 - (1 : Int)), IntKind.u64.wrap (rest9 + first7), ())))
      (some (Ex.normal, (u0, v1, n5, first7, IntKind.u64.wrap (guess8 - (1 : Int)), IntKind.u64.wrap (rest9 + first7), ()))))
    (grd (decide (0 ≤ IntKind.i64.wrap (n5 - (2 : Int))) && decide (IntKind.i64.wrap (n5 - (2 : Int)) < v1.length)) (
      grd (decide (0 ≤ IntKind.i64.wrap (n5 - (2 : Int))) && decide (IntKind.i64.wrap (n5 - (2 : Int)) < u0.length)) (
        grd (decide ((IntKind.i64.wrap (n5 - (2 : Int))).toNat < u0.length)) (
          cond (decide ((IntKind.u64.wrap (guess8 * (IntKind.u64.wrap (v1.getD (IntKind.i64.wrap (n5 - (2 : Int))).toNat (0 : Int))))) > (IntKind.u64.wrap ((IntKind.u64.wrap (rest9 * (1000000000 : Int))) + (IntKind.u64.wrap (u0.getD ((IntKind.i64.wrap (n5 - (2 : Int))).toNat) (0 : Int)))))))
            (cond (decide ((IntKind.u64.wrap (rest9 + first7)) ≥ (1000000000 : Int)))
              (some (Ex.exit 0, (u0, v1, n5, first7, IntKind.u64.wrap (guess8 - (1 : Int)), IntKind.u64.wrap (rest9 + first7), ())))
              (some (Ex.normal, (u0, v1, n5, first7, IntKind.u64.wrap (guess8 - (1 : Int)), IntKind.u64.wrap (rest9 + first7), ()))))
            (some (Ex.exit 0, (u0, v1, n5, first7, guess8, rest9, ())))))))
def n_reduce (u0 : List Int) (v1 : List Int) : Option ((Int × Unit) × ((List Int) × Unit)) :=
  grd (decide (0 ≤ (v1.length : Int)) && decide ((v1.length : Int) < u0.length)) (
    grd (decide ((v1.length : Int).toNat < u0.length)) (
      grd (decide (0 ≤ IntKind.i64.wrap ((v1.length : Int) - (1 : Int))) && decide (IntKind.i64.wrap ((v1.length : Int) - (1 : Int)) < u0.length)) (
        grd (decide ((IntKind.i64.wrap ((v1.length : Int) - (1 : Int))).toNat < u0.length)) (
          grd (decide (0 ≤ IntKind.i64.wrap ((v1.length : Int) - (1 : Int))) && decide (IntKind.i64.wrap ((v1.length : Int) - (1 : Int)) < v1.length)) (
            grd ((IntKind.u64.wrap (v1.getD (IntKind.i64.wrap ((v1.length : Int) - (1 : Int))).toNat (0 : Int))) != 0) (
              grd ((IntKind.u64.wrap (v1.getD (IntKind.i64.wrap ((v1.length : Int) - (1 : Int))).toNat (0 : Int))) != 0) (
                (loopO n_reduce_s4 (u0, v1, (v1.length : Int), IntKind.u64.wrap (v1.getD (IntKind.i64.wrap ((v1.length : Int) - (1 : Int))).toNat (0 : Int)), IntKind.u64.wrap ((IntKind.u64.wrap ((IntKind.u64.wrap ((IntKind.u64.wrap (u0.getD ((v1.length : Int).toNat) (0 : Int))) * (1000000000 : Int))) + (IntKind.u64.wrap (u0.getD ((IntKind.i64.wrap ((v1.length : Int) - (1 : Int))).toNat) (0 : Int))))).tdiv (IntKind.u64.wrap (v1.getD (IntKind.i64.wrap ((v1.length : Int) - (1 : Int))).toNat (0 : Int)))), (IntKind.u64.wrap ((IntKind.u64.wrap ((IntKind.u64.wrap (u0.getD ((v1.length : Int).toNat) (0 : Int))) * (1000000000 : Int))) + (IntKind.u64.wrap (u0.getD ((IntKind.i64.wrap ((v1.length : Int) - (1 : Int))).toNat) (0 : Int))))).tmod (IntKind.u64.wrap (v1.getD (IntKind.i64.wrap ((v1.length : Int) - (1 : Int))).toNat (0 : Int))), ())).bind fun y1 =>
                cond (Ex.same y1.1 (Ex.exit 0))
                  ((n_subtract y1.2.1 y1.2.2.1 y1.2.2.2.2.2.1).bind fun r2 =>
                  cond (r2.1.1)
                    ((n_restore r2.2.1 y1.2.2.1).bind fun r3 =>
                    some ((IntKind.u32.wrap (IntKind.u64.wrap (y1.2.2.2.2.2.1 - (1 : Int))), ()), r3.2.1, ()))
                    (some ((IntKind.u32.wrap (y1.2.2.2.2.2.1), ()), r2.2.1, ())))
                  (none))))))))
def n_nat_quoRem_s7 (x : (List Int) × (List Int) × (List Int) × (List Int) × Unit) : Option (Ex × ((List Int) × (List Int) × (List Int) × (List Int) × Unit)) :=
  let a0 := x.1
  let scale6 := x.2.1
  let u7 := x.2.2.1
  let v8 := x.2.2.2.1
  cond (decide ((u7.length : Int) ≤ (a0.length : Int)))
    (grd (decide (u7.length + ([0] : List Int).length ≤ maxN)) (some (Ex.normal, (a0, scale6, u7 ++ ([0] : List Int), v8, ()))))
    (some (Ex.exit 1, (a0, scale6, u7, v8, ())))
def n_nat_quoRem_s11 (x : (List Int) × (List Int) × (List Int) × (List Int) × Int × Unit) : Option (Ex × ((List Int) × (List Int) × (List Int) × (List Int) × Int × Unit)) :=
  let scale6 := x.1
  let u7 := x.2.1
  let v8 := x.2.2.1
  let q9 := x.2.2.2.1
  let j10 := x.2.2.2.2.1
  cond (decide (j10 ≥ (0 : Int)))
    (grd (decide (0 ≤ j10) && decide (j10 ≤ IntKind.i64.wrap ((IntKind.i64.wrap (j10 + (v8.length : Int))) + (1 : Int))) && decide (IntKind.i64.wrap ((IntKind.i64.wrap (j10 + (v8.length : Int))) + (1 : Int)) ≤ u7.length)) (
      (n_reduce ((u7.drop j10.toNat).take ((IntKind.i64.wrap ((IntKind.i64.wrap (j10 + (v8.length : Int))) + (1 : Int))).toNat - j10.toNat)) v8).bind fun r1 =>
      grd (decide (0 ≤ j10) && decide (j10 < q9.length)) (grd (decide (j10.toNat < q9.length)) (some (Ex.normal, (scale6, u7.take j10.toNat ++ r1.2.1 ++ u7.drop (j10.toNat + ((IntKind.i64.wrap ((IntKind.i64.wrap (j10 + (v8.length : Int))) + (1 : Int))).toNat - j10.toNat)), v8, q9.set j10.toNat r1.1.1, IntKind.i64.wrap (j10 - (1 : Int)), ()))))))
    (some (Ex.exit 3, (scale6, u7, v8, q9, j10, ())))
def n_nat_quoRem (a0 : List Int) (b1 : List Int) : Option (((List Int) × (List Int) × Unit) × Unit) :=
  (n_nat_cmp a0 b1).bind fun r1 =>
  cond (decide (r1.1.1 < (0 : Int)))
    (some ((([] : List Int), a0, ()), ()))
    (cond ((b1.length : Int) == (1 : Int))
      (grd (decide (0 ≤ (0 : Int)) && decide ((0 : Int) < b1.length)) (
        (n_nat_quoLimb a0 (b1.getD (0 : Int).toNat (0 : Int))).bind fun r2 =>
        some ((r2.1.1, r2.1.2.1, ()), ())))
      (grd (decide (0 ≤ IntKind.i64.wrap ((b1.length : Int) - (1 : Int))) && decide (IntKind.i64.wrap ((b1.length : Int) - (1 : Int)) < b1.length)) (
        grd ((IntKind.u64.wrap ((IntKind.u64.wrap (b1.getD (IntKind.i64.wrap ((b1.length : Int) - (1 : Int))).toNat (0 : Int))) + (1 : Int))) != 0) (
          (n_nat_mul_r a0 ([IntKind.u32.wrap (IntKind.u64.wrap ((1000000000 : Int).tdiv (IntKind.u64.wrap ((IntKind.u64.wrap (b1.getD (IntKind.i64.wrap ((b1.length : Int) - (1 : Int))).toNat (0 : Int))) + (1 : Int)))))] : List Int)).bind fun r3 =>
          (n_nat_mul_r b1 ([IntKind.u32.wrap (IntKind.u64.wrap ((1000000000 : Int).tdiv (IntKind.u64.wrap ((IntKind.u64.wrap (b1.getD (IntKind.i64.wrap ((b1.length : Int) - (1 : Int))).toNat (0 : Int))) + (1 : Int)))))] : List Int)).bind fun r4 =>
          (loopO n_nat_quoRem_s7 (a0, ([IntKind.u32.wrap (IntKind.u64.wrap ((1000000000 : Int).tdiv (IntKind.u64.wrap ((IntKind.u64.wrap (b1.getD (IntKind.i64.wrap ((b1.length : Int) - (1 : Int))).toNat (0 : Int))) + (1 : Int)))))] : List Int), r3.1.1, r4.1.1, ())).bind fun y5 =>
          cond (Ex.same y5.1 (Ex.exit 1))
            (grd (decide (0 ≤ IntKind.i64.wrap ((y5.2.2.2.1.length : Int) - (y5.2.2.2.2.1.length : Int))) && decide (IntKind.i64.wrap ((y5.2.2.2.1.length : Int) - (y5.2.2.2.2.1.length : Int)) ≤ IntKind.i64.wrap ((y5.2.2.2.1.length : Int) - (y5.2.2.2.2.1.length : Int))) && decide (IntKind.i64.wrap ((y5.2.2.2.1.length : Int) - (y5.2.2.2.2.1.length : Int)) ≤ maxN)) (
              (loopO n_nat_quoRem_s11 (y5.2.2.1, y5.2.2.2.1, y5.2.2.2.2.1, List.replicate (IntKind.i64.wrap ((y5.2.2.2.1.length : Int) - (y5.2.2.2.2.1.length : Int))).toNat (0 : Int), IntKind.i64.wrap (((List.replicate (IntKind.i64.wrap ((y5.2.2.2.1.length : Int) - (y5.2.2.2.2.1.length : Int))).toNat (0 : Int)).length : Int) - (1 : Int)), ())).bind fun y6 =>
              cond (Ex.same y6.1 (Ex.exit 3))
                ((n_nat_trim y6.2.2.1).bind fun r7 =>
                grd (decide (0 ≤ (0 : Int)) && decide ((0 : Int) < y6.2.1.length)) (
                  (n_nat_quoLimb r7.1.1 (y6.2.1.getD (0 : Int).toNat (0 : Int))).bind fun r8 =>
                  (n_nat_trim y6.2.2.2.2.1).bind fun r9 =>
                  some ((r9.1.1, r8.1.1, ()), ())))
                (none)))
            (none)))))
def n_gcd_s1 (x : (List Int) × (List Int) × Unit) : Option (Ex × ((List Int) × (List Int) × Unit)) :=
  let a0 := x.1
  let b1 := x.2.1
  cond (decide ((b1.length : Int) > (0 : Int)))
    ((n_nat_quoRem a0 b1).bind fun r1 =>
    some (Ex.normal, (b1, r1.1.2.1, ())))
    (some (Ex.exit 0, (a0, b1, ())))
def n_gcd (a0 : List Int) (b1 : List Int) : Option (((List Int) × Unit) × Unit) :=
  (loopO n_gcd_s1 (a0, b1, ())).bind fun y1 =>
  cond (Ex.same y1.1 (Ex.exit 0))
    (some ((y1.2.1, ()), ()))
    (none)
def n_nat_one (a0 : List Int) : Option ((Bool × Unit) × Unit) :=
  cond ((a0.length : Int) == (1 : Int))
    (grd (decide (0 ≤ (0 : Int)) && decide ((0 : Int) < a0.length)) (some (((a0.getD (0 : Int).toNat (0 : Int)) == (1 : Int), ()), ())))
    (some ((false, ()), ()))
def n_read (a0 : List UInt8) : Option ((Rt × Bool × Unit) × Unit) :=
  (strings_CutPrefix a0 ([45] : List UInt8)).bind fun r1 =>
  (strings_Cut r1.1.1 ([47] : List UInt8)).bind fun r2 =>
  (n_numeral r2.1.1).bind fun r3 =>
  cond (!r3.1.1)
    (some (((false, ([] : List Int), ([] : List Int)), false, ()), ()))
    (cond (r2.1.1 == ([48] : List UInt8))
      (cond (r1.1.2.1)
        (some (((false, ([] : List Int), ([] : List Int)), false, ()), ()))
        (cond (r2.1.2.2.1)
          (some (((false, ([] : List Int), ([] : List Int)), false, ()), ()))
          ((n_natOf r2.1.1).bind fun r4 =>
          cond (!r2.1.2.2.1)
            (some (((r1.1.2.1, r4.1.1, ([1] : List Int)), true, ()), ()))
            ((n_numeral r2.1.2.1).bind fun r5 =>
            cond (!r5.1.1)
              (some (((false, ([] : List Int), ([] : List Int)), false, ()), ()))
              (cond (r2.1.2.1 == ([48] : List UInt8))
                (some (((false, ([] : List Int), ([] : List Int)), false, ()), ()))
                (cond (r2.1.2.1 == ([49] : List UInt8))
                  (some (((false, ([] : List Int), ([] : List Int)), false, ()), ()))
                  ((n_natOf r2.1.2.1).bind fun r6 =>
                  (n_gcd r4.1.1 r6.1.1).bind fun r7 =>
                  (n_nat_one r7.1.1).bind fun r8 =>
                  some (((r1.1.2.1, r4.1.1, r6.1.1), r8.1.1, ()), ()))))))))
      ((n_natOf r2.1.1).bind fun r9 =>
      cond (!r2.1.2.2.1)
        (some (((r1.1.2.1, r9.1.1, ([1] : List Int)), true, ()), ()))
        ((n_numeral r2.1.2.1).bind fun r10 =>
        cond (!r10.1.1)
          (some (((false, ([] : List Int), ([] : List Int)), false, ()), ()))
          (cond (r2.1.2.1 == ([48] : List UInt8))
            (some (((false, ([] : List Int), ([] : List Int)), false, ()), ()))
            (cond (r2.1.2.1 == ([49] : List UInt8))
              (some (((false, ([] : List Int), ([] : List Int)), false, ()), ()))
              ((n_natOf r2.1.2.1).bind fun r11 =>
              (n_gcd r9.1.1 r11.1.1).bind fun r12 =>
              (n_nat_one r12.1.1).bind fun r13 =>
              some (((r1.1.2.1, r9.1.1, r11.1.1), r13.1.1, ()), ())))))))
def n_Valid (a0 : List UInt8) : Option ((Bool × Unit) × Unit) :=
  (n_smallOf a0).bind fun r1 =>
  cond (r1.1.2.1)
    (some ((true, ()), ()))
    ((n_read a0).bind fun r2 =>
    some ((r2.1.2.1, ()), ()))
def n_Sign (a0 : List UInt8) : Option ((Int × Unit) × Unit) :=
  (n_Valid a0).bind fun r1 =>
  cond (!r1.1.1)
    (some ((0, ()), ()))
    (cond (a0 == ([48] : List UInt8))
      (some ((0, ()), ()))
      (grd (decide (0 ≤ (0 : Int)) && decide ((0 : Int) < a0.length)) (
        cond (((a0.getD (0 : Int).toNat 0).toNat : Int) == (45 : Int))
          (some ((-1, ()), ()))
          (some ((1, ()), ())))))
def n_Neg (a0 : List UInt8) : Option (((List UInt8) × Unit) × Unit) :=
  (n_Sign a0).bind fun r1 =>
  cond (decide (r1.1.1 < (0 : Int)))
    (grd (decide (0 ≤ (1 : Int)) && decide ((1 : Int) ≤ a0.length)) (some ((a0.drop (1 : Int).toNat, ()), ())))
    ((n_Sign a0).bind fun r2 =>
    cond (decide (r2.1.1 > (0 : Int)))
      (grd (decide (([45] : List UInt8).length + a0.length ≤ maxS)) (some ((([45] : List UInt8) ++ a0, ()), ())))
      (cond (a0 == ([48] : List UInt8))
        (some ((a0, ()), ()))
        (some ((([] : List UInt8), ()), ()))))
def n_fraction (n0 : Int) (d1 : Int) : Option (((List UInt8) × Unit) × Unit) :=
  cond (decide (d1 < (0 : Int)))
    ((n_divisor (maxA (IntKind.i64.wrap (0 - n0)) (IntKind.i64.wrap (0 - (IntKind.i64.wrap (0 - n0))))) (IntKind.i64.wrap (0 - d1))).bind fun r1 =>
    grd (r1.1.1 != 0) (
      grd (r1.1.1 != 0) (
        (strconv_FormatInt (IntKind.i64.wrap ((IntKind.i64.wrap (0 - n0)).tdiv r1.1.1)) 10).bind fun r2 =>
        cond (decide ((IntKind.i64.wrap ((IntKind.i64.wrap (0 - d1)).tdiv r1.1.1)) > (1 : Int)))
          ((strconv_FormatInt (IntKind.i64.wrap ((IntKind.i64.wrap (0 - d1)).tdiv r1.1.1)) 10).bind fun r3 =>
          grd (decide (([47] : List UInt8).length + r3.1.1.length ≤ maxS)) (grd (decide (r2.1.1.length + (([47] : List UInt8) ++ r3.1.1).length ≤ maxS)) (some ((r2.1.1 ++ (([47] : List UInt8) ++ r3.1.1), ()), ()))))
          (some ((r2.1.1, ()), ())))))
    ((n_divisor (maxA n0 (IntKind.i64.wrap (0 - n0))) d1).bind fun r4 =>
    grd (r4.1.1 != 0) (
      grd (r4.1.1 != 0) (
        (strconv_FormatInt (IntKind.i64.wrap (n0.tdiv r4.1.1)) 10).bind fun r5 =>
        cond (decide ((IntKind.i64.wrap (d1.tdiv r4.1.1)) > (1 : Int)))
          ((strconv_FormatInt (IntKind.i64.wrap (d1.tdiv r4.1.1)) 10).bind fun r6 =>
          grd (decide (([47] : List UInt8).length + r6.1.1.length ≤ maxS)) (grd (decide (r5.1.1.length + (([47] : List UInt8) ++ r6.1.1).length ≤ maxS)) (some ((r5.1.1 ++ (([47] : List UInt8) ++ r6.1.1), ()), ()))))
          (some ((r5.1.1, ()), ())))))
def n_Add_1 (x0 : Sml) (y1 : Sml) : Option (((List UInt8) × Unit) × Unit) :=
  (n_fraction (IntKind.i64.wrap ((IntKind.i64.wrap (x0.1 * y1.2)) + (IntKind.i64.wrap (y1.1 * x0.2)))) (IntKind.i64.wrap (x0.2 * y1.2))).bind fun r1 =>
  some ((r1.1.1, ()), ())
def n_nat_mul_s7 (x : (List Int) × (List Int) × Int × Int × Int × (List Int) × Int × Int × (List Int) × Int × Int × Unit) : Option (Ex × ((List Int) × (List Int) × Int × Int × Int × (List Int) × Int × Int × (List Int) × Int × Int × Unit)) :=
  let b1 := x.1
  let out5 := x.2.1
  let i6 := x.2.2.1
  let x7 := x.2.2.2.1
  let carry8 := x.2.2.2.2.1
  let t18 := x.2.2.2.2.2.1
  let t19 := x.2.2.2.2.2.2.1
  let t20 := x.2.2.2.2.2.2.2.1
  let t25 := x.2.2.2.2.2.2.2.2.1
  let t26 := x.2.2.2.2.2.2.2.2.2.1
  let t27 := x.2.2.2.2.2.2.2.2.2.2.1
  cond (decide (t27 < t26))
    (grd (decide (0 ≤ t27) && decide (t27 < t25.length)) (grd (decide (0 ≤ IntKind.i64.wrap (i6 + t27)) && decide (IntKind.i64.wrap (i6 + t27) < out5.length)) (grd (decide ((IntKind.i64.wrap (i6 + t27)).toNat < out5.length)) (grd ((1000000000 : Int) != 0) (grd ((1000000000 : Int) != 0) (grd (decide (0 ≤ IntKind.i64.wrap (i6 + t27)) && decide (IntKind.i64.wrap (i6 + t27) < out5.length)) (grd (decide ((IntKind.i64.wrap (i6 + t27)).toNat < out5.length)) (some (Ex.normal, (b1, out5.set ((IntKind.i64.wrap (i6 + t27)).toNat) (IntKind.u32.wrap ((IntKind.u64.wrap ((IntKind.u64.wrap ((IntKind.u64.wrap (out5.getD ((IntKind.i64.wrap (i6 + t27)).toNat) (0 : Int))) + (IntKind.u64.wrap ((IntKind.u64.wrap (x7)) * (IntKind.u64.wrap (t25.getD t27.toNat (0 : Int))))))) + carry8)).tmod 1000000000)), i6, x7, IntKind.u64.wrap ((IntKind.u64.wrap ((IntKind.u64.wrap ((IntKind.u64.wrap (out5.getD ((IntKind.i64.wrap (i6 + t27)).toNat) (0 : Int))) + (IntKind.u64.wrap ((IntKind.u64.wrap (x7)) * (IntKind.u64.wrap (t25.getD t27.toNat (0 : Int))))))) + carry8)).tdiv 1000000000), t18, t19, t20, t25, t26, IntKind.i64.wrap (t27 + (1 : Int)), ()))))))))))
    (some (Ex.exit 2, (b1, out5, i6, x7, carry8, t18, t19, t20, t25, t26, t27, ())))
def n_nat_mul_s3 (x : (List Int) × (List Int) × (List Int) × Int × Int × Unit) : Option (Ex × ((List Int) × (List Int) × (List Int) × Int × Int × Unit)) :=
  let b1 := x.1
  let out5 := x.2.1
  let t18 := x.2.2.1
  let t19 := x.2.2.2.1
  let t20 := x.2.2.2.2.1
  cond (decide (t20 < t19))
    (grd (decide (0 ≤ t20) && decide (t20 < t18.length)) (
      (loopO n_nat_mul_s7 (b1, out5, t20, t18.getD t20.toNat (0 : Int), 0, t18, t19, t20, b1, (b1.length : Int), 0, ())).bind fun y1 =>
      cond (Ex.same y1.1 (Ex.exit 2))
        (grd (decide (0 ≤ IntKind.i64.wrap (y1.2.2.2.1 + (y1.2.1.length : Int))) && decide (IntKind.i64.wrap (y1.2.2.2.1 + (y1.2.1.length : Int)) < y1.2.2.1.length)) (grd (decide ((IntKind.i64.wrap (y1.2.2.2.1 + (y1.2.1.length : Int))).toNat < y1.2.2.1.length)) (some (Ex.normal, (y1.2.1, y1.2.2.1.set ((IntKind.i64.wrap (y1.2.2.2.1 + (y1.2.1.length : Int))).toNat) (IntKind.u32.wrap (y1.2.2.2.2.2.1)), y1.2.2.2.2.2.2.1, y1.2.2.2.2.2.2.2.1, IntKind.i64.wrap (y1.2.2.2.2.2.2.2.2.1 + (1 : Int)), ())))))
        (none)))
    (some (Ex.exit 0, (b1, out5, t18, t19, t20, ())))
def n_nat_mul (a0 : List Int) (b1 : List Int) : Option (((List Int) × Unit) × Unit) :=
  grd (decide (0 ≤ IntKind.i64.wrap ((a0.length : Int) + (b1.length : Int))) && decide (IntKind.i64.wrap ((a0.length : Int) + (b1.length : Int)) ≤ IntKind.i64.wrap ((a0.length : Int) + (b1.length : Int))) && decide (IntKind.i64.wrap ((a0.length : Int) + (b1.length : Int)) ≤ maxN)) (
    (loopO n_nat_mul_s3 (b1, List.replicate (IntKind.i64.wrap ((a0.length : Int) + (b1.length : Int))).toNat (0 : Int), a0, (a0.length : Int), 0, ())).bind fun y1 =>
    cond (Ex.same y1.1 (Ex.exit 0))
      ((n_nat_trim y1.2.2.1).bind fun r2 =>
      some ((r2.1.1, ()), ()))
      (none))
def n_nat_add_s4 (x : (List Int) × (List Int) × (List Int) × Int × Int × Int × Unit) : Option (Ex × ((List Int) × (List Int) × (List Int) × Int × Int × Int × Unit)) :=
  let a0 := x.1
  let b1 := x.2.1
  let out5 := x.2.2.1
  let carry6 := x.2.2.2.1
  let t20 := x.2.2.2.2.1
  let t21 := x.2.2.2.2.2.1
  cond (decide (t21 < t20))
    ((n_nat_at a0 t21).bind fun r1 =>
    (n_nat_at b1 t21).bind fun r2 =>
    grd ((1000000000 : Int) != 0) (grd (decide (out5.length + ([(IntKind.u32.wrap ((IntKind.u32.wrap (r1.1.1 + r2.1.1)) + carry6)).tmod 1000000000] : List Int).length ≤ maxN)) (grd ((1000000000 : Int) != 0) (some (Ex.normal, (a0, b1, out5 ++ ([(IntKind.u32.wrap ((IntKind.u32.wrap (r1.1.1 + r2.1.1)) + carry6)).tmod 1000000000] : List Int), IntKind.u32.wrap ((IntKind.u32.wrap ((IntKind.u32.wrap (r1.1.1 + r2.1.1)) + carry6)).tdiv 1000000000), t20, IntKind.i64.wrap (t21 + (1 : Int)), ()))))))
    (some (Ex.exit 0, (a0, b1, out5, carry6, t20, t21, ())))
def n_nat_add (a0 : List Int) (b1 : List Int) : Option (((List Int) × Unit) × Unit) :=
  grd (decide (0 ≤ (0 : Int)) && decide ((0 : Int) ≤ IntKind.i64.wrap ((maxA (a0.length : Int) (b1.length : Int)) + (1 : Int))) && decide (IntKind.i64.wrap ((maxA (a0.length : Int) (b1.length : Int)) + (1 : Int)) ≤ maxN)) (
    (loopO n_nat_add_s4 (a0, b1, List.replicate (0 : Int).toNat (0 : Int), 0, maxA (a0.length : Int) (b1.length : Int), 0, ())).bind fun y1 =>
    cond (Ex.same y1.1 (Ex.exit 0))
      (grd (decide (y1.2.2.2.1.length + ([y1.2.2.2.2.1] : List Int).length ≤ maxN)) (
        (n_nat_trim (y1.2.2.2.1 ++ ([y1.2.2.2.2.1] : List Int))).bind fun r2 =>
        some ((r2.1.1, ()), ())))
      (none))
def n_lowest (neg0 : Bool) (num1 : List Int) (den2 : List Int) : Option ((Rt × Unit) × Unit) :=
  (n_gcd num1 den2).bind fun r1 =>
  (n_nat_one r1.1.1).bind fun r2 =>
  cond (!r2.1.1)
    ((n_nat_quoRem num1 r1.1.1).bind fun r3 =>
    (n_nat_quoRem den2 r1.1.1).bind fun r4 =>
    some (((neg0, r3.1.1, r4.1.1), ()), ()))
    (some (((neg0, num1, den2), ()), ()))
def n_nat_sub_s4 (x : (List Int) × (List Int) × (List Int) × Int × Int × Int × Unit) : Option (Ex × ((List Int) × (List Int) × (List Int) × Int × Int × Int × Unit)) :=
  let a0 := x.1
  let b1 := x.2.1
  let out5 := x.2.2.1
  let borrow6 := x.2.2.2.1
  let t13 := x.2.2.2.2.1
  let t14 := x.2.2.2.2.2.1
  cond (decide (t14 < t13))
    (grd (decide (0 ≤ t14) && decide (t14 < a0.length)) (
      (n_nat_at b1 t14).bind fun r1 =>
      cond (decide ((IntKind.i64.wrap ((IntKind.i64.wrap ((IntKind.i64.wrap (a0.getD t14.toNat (0 : Int))) - (IntKind.i64.wrap (r1.1.1)))) - borrow6)) < (0 : Int)))
        (grd (decide (out5.length + ([IntKind.u32.wrap (IntKind.i64.wrap ((IntKind.i64.wrap ((IntKind.i64.wrap ((IntKind.i64.wrap (a0.getD t14.toNat (0 : Int))) - (IntKind.i64.wrap (r1.1.1)))) - borrow6)) + (1000000000 : Int)))] : List Int).length ≤ maxN)) (some (Ex.normal, (a0, b1, out5 ++ ([IntKind.u32.wrap (IntKind.i64.wrap ((IntKind.i64.wrap ((IntKind.i64.wrap ((IntKind.i64.wrap (a0.getD t14.toNat (0 : Int))) - (IntKind.i64.wrap (r1.1.1)))) - borrow6)) + (1000000000 : Int)))] : List Int), 1, t13, IntKind.i64.wrap (t14 + (1 : Int)), ()))))
        (grd (decide (out5.length + ([IntKind.u32.wrap (IntKind.i64.wrap ((IntKind.i64.wrap ((IntKind.i64.wrap (a0.getD t14.toNat (0 : Int))) - (IntKind.i64.wrap (r1.1.1)))) - borrow6))] : List Int).length ≤ maxN)) (some (Ex.normal, (a0, b1, out5 ++ ([IntKind.u32.wrap (IntKind.i64.wrap ((IntKind.i64.wrap ((IntKind.i64.wrap (a0.getD t14.toNat (0 : Int))) - (IntKind.i64.wrap (r1.1.1)))) - borrow6))] : List Int), 0, t13, IntKind.i64.wrap (t14 + (1 : Int)), ()))))))
    (some (Ex.exit 0, (a0, b1, out5, borrow6, t13, t14, ())))
def n_nat_sub (a0 : List Int) (b1 : List Int) : Option (((List Int) × Unit) × Unit) :=
  grd (decide (0 ≤ (0 : Int)) && decide ((0 : Int) ≤ (a0.length : Int)) && decide ((a0.length : Int) ≤ maxN)) (
    (loopO n_nat_sub_s4 (a0, b1, List.replicate (0 : Int).toNat (0 : Int), 0, (a0.length : Int), 0, ())).bind fun y1 =>
    cond (Ex.same y1.1 (Ex.exit 0))
      ((n_nat_trim y1.2.2.2.1).bind fun r2 =>
      some ((r2.1.1, ()), ()))
      (none))
def n_rat_add (x0 : Rt) (y1 : Rt) : Option ((Rt × Unit) × Unit) :=
  (n_nat_mul x0.2.1 y1.2.2).bind fun r1 =>
  (n_nat_mul y1.2.1 x0.2.2).bind fun r2 =>
  (n_nat_mul x0.2.2 y1.2.2).bind fun r3 =>
  cond (x0.1 == y1.1)
    ((n_nat_add r1.1.1 r2.1.1).bind fun r4 =>
    (n_lowest x0.1 r4.1.1 r3.1.1).bind fun r5 =>
    some (((r5.1.1.1, r5.1.1.2.1, r5.1.1.2.2), ()), ()))
    ((n_nat_cmp r1.1.1 r2.1.1).bind fun r6 =>
    cond (decide (r6.1.1 ≥ (0 : Int)))
      ((n_nat_sub r1.1.1 r2.1.1).bind fun r7 =>
      (n_lowest x0.1 r7.1.1 r3.1.1).bind fun r8 =>
      some (((r8.1.1.1, r8.1.1.2.1, r8.1.1.2.2), ()), ()))
      ((n_nat_sub r2.1.1 r1.1.1).bind fun r9 =>
      (n_lowest y1.1 r9.1.1 r3.1.1).bind fun r10 =>
      some (((r10.1.1.1, r10.1.1.2.1, r10.1.1.2.2), ()), ())))
def strings_Builder_WriteString (b0 : Unit × List Int) (s1 : List UInt8) : Option ((Int × Bool × Unit) × ((Unit × List Int) × Unit)) :=
  (strings_Builder_copyCheck ((), b0.2)).bind fun r1 =>
  grd (decide (r1.2.1.2.length + (s1.map fun c => ((c.toNat : Nat) : Int)).length ≤ maxN)) (some (((s1.length : Int), false, ()), ((), r1.2.1.2 ++ (s1.map fun c => ((c.toNat : Nat) : Int))), ()))
def n_nat_text_s6 (v : Int) (i : Nat) (x : (Unit × List Int) × Unit) : Option ((Unit × List Int) × Unit) :=
  let b3 := x.1
  (strconv_FormatUint (IntKind.u64.wrap (v)) 10).bind fun r1 =>
  grd (decide (0 ≤ (r1.1.1.length : Int)) && decide ((r1.1.1.length : Int) ≤ ([48, 48, 48, 48, 48, 48, 48, 48, 48] : List UInt8).length)) (
    (strings_Builder_WriteString ((), b3.2) (([48, 48, 48, 48, 48, 48, 48, 48, 48] : List UInt8).drop (r1.1.1.length : Int).toNat)).bind fun r2 =>
    (strings_Builder_WriteString ((), r2.2.1.2) r1.1.1).bind fun r3 =>
    some (((), r3.2.1.2), ()))
def n_nat_text_s6_M (y : (Unit × List Int) × Unit) (o : (Unit × List Int) × Unit) : (Unit × List Int) × Unit := (o.1, ())
def n_nat_text_s6_O (y : (Unit × List Int) × Unit) : (Unit × List Int) × Unit := (y.1, ())
def n_nat_text (a0 : List Int) : Option (((List UInt8) × Unit) × Unit) :=
  cond ((a0.length : Int) == (0 : Int))
    (some ((([48] : List UInt8), ()), ()))
    (grd (decide (0 ≤ IntKind.i64.wrap ((a0.length : Int) - (1 : Int))) && decide (IntKind.i64.wrap ((a0.length : Int) - (1 : Int)) < a0.length)) (
      (strconv_FormatUint (IntKind.u64.wrap (a0.getD (IntKind.i64.wrap ((a0.length : Int) - (1 : Int))).toNat (0 : Int))) 10).bind fun r1 =>
      (strings_Builder_WriteString ((), ([] : List Int)) r1.1.1).bind fun r2 =>
      grd (decide (0 ≤ IntKind.i64.wrap ((a0.length : Int) - (1 : Int))) && decide (IntKind.i64.wrap ((a0.length : Int) - (1 : Int)) ≤ a0.length)) (
        grd (decide ((a0.take (IntKind.i64.wrap ((a0.length : Int) - (1 : Int))).toNat).length ≤ maxN)) (((foldO (fun p y => (n_nat_text_s6 p.1 p.2 y).bind fun o => some (n_nat_text_s6_M y o)) (a0.take (IntKind.i64.wrap ((a0.length : Int) - (1 : Int))).toNat).zipIdx.reverse (((), r2.2.1.2), ())).bind fun y => some ((), n_nat_text_s6_O y)).bind fun y3 =>
        (strings_Builder_String ((), y3.2.1.2)).bind fun r4 =>
        some ((r4.1.1, ()), ())))))
def n_rat_text (x0 : Rt) : Option (((List UInt8) × Unit) × Unit) :=
  (n_nat_text x0.2.1).bind fun r1 =>
  cond (x0.1)
    (cond (decide ((x0.2.1.length : Int) > (0 : Int)))
      (grd (decide (([45] : List UInt8).length + r1.1.1.length ≤ maxS)) (
        (n_nat_one x0.2.2).bind fun r2 =>
        cond (!r2.1.1)
          ((n_nat_text x0.2.2).bind fun r3 =>
          grd (decide (([47] : List UInt8).length + r3.1.1.length ≤ maxS)) (grd (decide ((([45] : List UInt8) ++ r1.1.1).length + (([47] : List UInt8) ++ r3.1.1).length ≤ maxS)) (some (((([45] : List UInt8) ++ r1.1.1) ++ (([47] : List UInt8) ++ r3.1.1), ()), ()))))
          (some ((([45] : List UInt8) ++ r1.1.1, ()), ()))))
      ((n_nat_one x0.2.2).bind fun r4 =>
      cond (!r4.1.1)
        ((n_nat_text x0.2.2).bind fun r5 =>
        grd (decide (([47] : List UInt8).length + r5.1.1.length ≤ maxS)) (grd (decide (r1.1.1.length + (([47] : List UInt8) ++ r5.1.1).length ≤ maxS)) (some ((r1.1.1 ++ (([47] : List UInt8) ++ r5.1.1), ()), ()))))
        (some ((r1.1.1, ()), ()))))
    ((n_nat_one x0.2.2).bind fun r6 =>
    cond (!r6.1.1)
      ((n_nat_text x0.2.2).bind fun r7 =>
      grd (decide (([47] : List UInt8).length + r7.1.1.length ≤ maxS)) (grd (decide (r1.1.1.length + (([47] : List UInt8) ++ r7.1.1).length ≤ maxS)) (some ((r1.1.1 ++ (([47] : List UInt8) ++ r7.1.1), ()), ()))))
      (some ((r1.1.1, ()), ())))
def n_Add_2 (x0 : Rt) (y1 : Rt) : Option (((List UInt8) × Unit) × Unit) :=
  (n_rat_add (x0.1, x0.2.1, x0.2.2) (y1.1, y1.2.1, y1.2.2)).bind fun r1 =>
  (n_rat_text (r1.1.1.1, r1.1.1.2.1, r1.1.1.2.2)).bind fun r2 =>
  some ((r2.1.1, ()), ())
def n_two_n_Add_1_n_Add_2 (a0 : List UInt8) (b1 : List UInt8) (small2 : Unit) (all3 : Unit) : Option (((List UInt8) × Unit) × Unit) :=
  (n_smallOf a0).bind fun r1 =>
  (n_smallOf b1).bind fun r2 =>
  cond (r1.1.2.1)
    (cond (r2.1.2.1)
      ((n_Add_1 (r1.1.1.1, r1.1.1.2) (r2.1.1.1, r2.1.1.2)).bind fun r3 =>
      some ((r3.1.1, ()), ()))
      ((n_read a0).bind fun r4 =>
      (n_read b1).bind fun r5 =>
      cond (!r4.1.2.1)
        (some ((([] : List UInt8), ()), ()))
        (cond (!r5.1.2.1)
          (some ((([] : List UInt8), ()), ()))
          ((n_Add_2 (r4.1.1.1, r4.1.1.2.1, r4.1.1.2.2) (r5.1.1.1, r5.1.1.2.1, r5.1.1.2.2)).bind fun r6 =>
          some ((r6.1.1, ()), ())))))
    ((n_read a0).bind fun r7 =>
    (n_read b1).bind fun r8 =>
    cond (!r7.1.2.1)
      (some ((([] : List UInt8), ()), ()))
      (cond (!r8.1.2.1)
        (some ((([] : List UInt8), ()), ()))
        ((n_Add_2 (r7.1.1.1, r7.1.1.2.1, r7.1.1.2.2) (r8.1.1.1, r8.1.1.2.1, r8.1.1.2.2)).bind fun r9 =>
        some ((r9.1.1, ()), ()))))
def n_Add (a0 : List UInt8) (b1 : List UInt8) : Option (((List UInt8) × Unit) × Unit) :=
  (n_two_n_Add_1_n_Add_2 a0 b1 () ()).bind fun r1 =>
  some ((r1.1.1, ()), ())
def n_Sub (a0 : List UInt8) (b1 : List UInt8) : Option (((List UInt8) × Unit) × Unit) :=
  (n_Neg b1).bind fun r1 =>
  (n_Add a0 r1.1.1).bind fun r2 =>
  some ((r2.1.1, ()), ())
def n_Cmp (a0 : List UInt8) (b1 : List UInt8) : Option ((Int × Unit) × Unit) :=
  (n_Sub a0 b1).bind fun r1 =>
  (n_Sign r1.1.1).bind fun r2 =>
  some ((r2.1.1, ()), ())
def v_elements_s4 (x : Val × Bool × (List (List UInt8)) × Int × Int × Unit) : Option (Ex × (Val × Bool × (List (List UInt8)) × Int × Int × Unit)) :=
  let v1 := x.1
  let t2 := x.2.1
  let t13 := x.2.2.1
  let t14 := x.2.2.2.1
  let t15 := x.2.2.2.2.1
  cond (decide (t15 < t14))
    (grd (decide (0 ≤ t15) && decide (t15 < t13.length)) (
      (n_IsInt (t13.getD t15.toNat ([] : List UInt8))).bind fun r1 =>
      cond (!r1.1.1)
        (some (Ex.ret, (v1, false, t13, t14, t15, ())))
        (grd (decide (0 ≤ t15) && decide (t15 < v1.2.2.2.2.length)) (
          (n_IsInt (v1.2.2.2.2.getD t15.toNat ([] : List UInt8))).bind fun r2 =>
          cond (!r2.1.1)
            (some (Ex.ret, (v1, false, t13, t14, t15, ())))
            (grd (decide (0 ≤ t15) && decide (t15 < v1.2.2.2.2.length)) (
              cond ((v1.2.2.2.2.getD t15.toNat ([] : List UInt8)) == v1.2.2.1)
                (some (Ex.ret, (v1, false, t13, t14, t15, ())))
                (cond (decide (t15 > (0 : Int)))
                  (grd (decide (0 ≤ IntKind.i64.wrap (t15 - (1 : Int))) && decide (IntKind.i64.wrap (t15 - (1 : Int)) < v1.2.2.2.1.length)) (
                    (n_Cmp (v1.2.2.2.1.getD (IntKind.i64.wrap (t15 - (1 : Int))).toNat ([] : List UInt8)) (t13.getD t15.toNat ([] : List UInt8))).bind fun r3 =>
                    cond (decide (r3.1.1 ≥ (0 : Int)))
                      (some (Ex.ret, (v1, false, t13, t14, t15, ())))
                      (some (Ex.normal, (v1, t2, t13, t14, IntKind.i64.wrap (t15 + (1 : Int)), ())))))
                  (some (Ex.normal, (v1, t2, t13, t14, IntKind.i64.wrap (t15 + (1 : Int)), ()))))))))))
    (some (Ex.exit 0, (v1, t2, t13, t14, t15, ())))
def v_elements (v0 : Val) : Option ((Bool × Unit) × Unit) :=
  cond ((v0.2.2.2.1.length : Int) != (v0.2.2.2.2.length : Int))
    (some ((false, ()), ()))
    ((loopO v_elements_s4 (v0, false, v0.2.2.2.1, (v0.2.2.2.1.length : Int), 0, ())).bind fun y1 =>
    cond (Ex.same y1.1 (Ex.exit 0))
      (some ((true, ()), ()))
      (cond (Ex.same y1.1 Ex.ret)
        (some ((y1.2.2.1, ()), ()))
        (none)))
def v_Valid (v0 : Val) : Option ((Bool × Unit) × Unit) :=
  cond (v0.1 == (1 : Int))
    (cond (v0.2.2.1 == ([] : List UInt8))
      ((v_simple v0).bind fun r1 =>
      some ((r1.1.1, ()), ()))
      (some ((false, ()), ())))
    (cond (v0.1 == (2 : Int))
      (cond (!v0.2.1)
        ((n_IsInt v0.2.2.1).bind fun r2 =>
        cond (r2.1.1)
          ((v_simple v0).bind fun r3 =>
          some ((r3.1.1, ()), ()))
          (some ((false, ()), ())))
        (some ((false, ()), ())))
      (cond (v0.1 == (3 : Int))
        (cond (!v0.2.1)
          ((n_Valid v0.2.2.1).bind fun r4 =>
          cond (r4.1.1)
            ((v_simple v0).bind fun r5 =>
            some ((r5.1.1, ()), ()))
            (some ((false, ()), ())))
          (some ((false, ()), ())))
        (cond (v0.1 == (4 : Int))
          (cond (!v0.2.1)
            ((n_IsInt v0.2.2.1).bind fun r6 =>
            cond (r6.1.1)
              ((v_elements v0).bind fun r7 =>
              some ((r7.1.1, ()), ()))
              (some ((false, ()), ())))
            (some ((false, ()), ())))
          (some ((false, ()), ())))))
def v_array (v0 : Val) : Option ((Bool × Unit) × Unit) :=
  cond (v0.1 == (4 : Int))
    ((v_Valid v0).bind fun r1 =>
    some ((r1.1.1, ()), ()))
    (some ((false, ()), ()))
def v_clone (v0 : Val) : Option (((Int × Bool × (List UInt8) × (List (List UInt8)) × List (List UInt8)) × Unit) × Unit) :=
  (slices_Clone_string_string v0.2.2.2.1).bind fun r1 =>
  (slices_Clone_string_string v0.2.2.2.2).bind fun r2 =>
  some (((v0.1, v0.2.1, v0.2.2.1, r1.1.1, r2.1.1), ()), ())
def slices_BinarySearchFunc_string_string_string_n_Cmp_s3 (x : (List (List UInt8)) × (List UInt8) × Unit × Int × Int × Int × Unit) : Option (Ex × ((List (List UInt8)) × (List UInt8) × Unit × Int × Int × Int × Unit)) :=
  let x0 := x.1
  let target1 := x.2.1
  let cmp2 := x.2.2.1
  let n8 := x.2.2.2.1
  let i9 := x.2.2.2.2.1
  let j10 := x.2.2.2.2.2.1
  cond (decide (i9 < j10))
    (grd (decide (0 ≤ (1 : Int))) (
      grd (decide (0 ≤ IntKind.i64.wrap ((IntKind.u64.wrap (IntKind.i64.wrap (i9 + j10))).fdiv (2 ^ min (1 : Int).toNat IntKind.u64.bits))) && decide (IntKind.i64.wrap ((IntKind.u64.wrap (IntKind.i64.wrap (i9 + j10))).fdiv (2 ^ min (1 : Int).toNat IntKind.u64.bits)) < x0.length)) (
        (n_Cmp (x0.getD (IntKind.i64.wrap ((IntKind.u64.wrap (IntKind.i64.wrap (i9 + j10))).fdiv (2 ^ min (1 : Int).toNat IntKind.u64.bits))).toNat ([] : List UInt8)) target1).bind fun r1 =>
        cond (decide (r1.1.1 < (0 : Int)))
          (some (Ex.normal, (x0, target1, (), n8, IntKind.i64.wrap ((IntKind.i64.wrap ((IntKind.u64.wrap (IntKind.i64.wrap (i9 + j10))).fdiv (2 ^ min (1 : Int).toNat IntKind.u64.bits))) + (1 : Int)), j10, ())))
          (some (Ex.normal, (x0, target1, (), n8, i9, IntKind.i64.wrap ((IntKind.u64.wrap (IntKind.i64.wrap (i9 + j10))).fdiv (2 ^ min (1 : Int).toNat IntKind.u64.bits)), ()))))))
    (some (Ex.exit 0, (x0, target1, (), n8, i9, j10, ())))
def slices_BinarySearchFunc_string_string_string_n_Cmp (x0 : List (List UInt8)) (target1 : List UInt8) (cmp2 : Unit) : Option ((Int × Bool × Unit) × Unit) :=
  (loopO slices_BinarySearchFunc_string_string_string_n_Cmp_s3 (x0, target1, (), (x0.length : Int), 0, (x0.length : Int), ())).bind fun y1 =>
  cond (Ex.same y1.1 (Ex.exit 0))
    (cond (decide (y1.2.2.2.2.2.1 < y1.2.2.2.2.1))
      (grd (decide (0 ≤ y1.2.2.2.2.2.1) && decide (y1.2.2.2.2.2.1 < y1.2.1.length)) (
        (n_Cmp (y1.2.1.getD y1.2.2.2.2.2.1.toNat ([] : List UInt8)) y1.2.2.1).bind fun r2 =>
        some ((y1.2.2.2.2.2.1, r2.1.1 == (0 : Int), ()), ())))
      (some ((y1.2.2.2.2.2.1, false, ()), ())))
    (none)
def v_place (a0 : Val) (index1 : List UInt8) : Option ((Int × Bool × Unit) × Unit) :=
  (slices_BinarySearchFunc_string_string_string_n_Cmp a0.2.2.2.1 index1 ()).bind fun r1 =>
  some ((r1.1.1, r1.1.2.1, ()), ())
def v_store (a0 : Val) (index1 : List UInt8) (num2 : List UInt8) : Option ((Val × Unit) × Unit) :=
  (v_clone a0).bind fun r1 =>
  (v_place r1.1.1 index1).bind fun r2 =>
  cond (r2.1.2.1)
    (cond (num2 == r1.1.1.2.2.1)
      ((slices_Delete_string_string r1.1.1.2.2.2.1 r2.1.1 (IntKind.i64.wrap (r2.1.1 + (1 : Int)))).bind fun r3 =>
      (slices_Delete_string_string r1.1.1.2.2.2.2 r2.1.1 (IntKind.i64.wrap (r2.1.1 + (1 : Int)))).bind fun r4 =>
      some (((r1.1.1.1, r1.1.1.2.1, r1.1.1.2.2.1, r3.2.1.take r3.1.1, r4.2.1.take r4.1.1), ()), ()))
      (cond (r2.1.2.1)
        (grd (decide (0 ≤ r2.1.1) && decide (r2.1.1 < r1.1.1.2.2.2.2.length)) (grd (decide (r2.1.1.toNat < r1.1.1.2.2.2.2.length)) (some (((r1.1.1.1, r1.1.1.2.1, r1.1.1.2.2.1, r1.1.1.2.2.2.1, r1.1.1.2.2.2.2.set r2.1.1.toNat num2), ()), ()))))
        (cond (!(num2 == r1.1.1.2.2.1))
          ((slices_Insert_string_string r1.1.1.2.2.2.1 r2.1.1 ([index1] : List (List UInt8))).bind fun r5 =>
          (slices_Insert_string_string r1.1.1.2.2.2.2 r2.1.1 ([num2] : List (List UInt8))).bind fun r6 =>
          some (((r1.1.1.1, r1.1.1.2.1, r1.1.1.2.2.1, r5.1.1, r6.1.1), ()), ()))
          (some ((r1.1.1, ()), ())))))
    (cond (r2.1.2.1)
      (grd (decide (0 ≤ r2.1.1) && decide (r2.1.1 < r1.1.1.2.2.2.2.length)) (grd (decide (r2.1.1.toNat < r1.1.1.2.2.2.2.length)) (some (((r1.1.1.1, r1.1.1.2.1, r1.1.1.2.2.1, r1.1.1.2.2.2.1, r1.1.1.2.2.2.2.set r2.1.1.toNat num2), ()), ()))))
      (cond (!(num2 == r1.1.1.2.2.1))
        ((slices_Insert_string_string r1.1.1.2.2.2.1 r2.1.1 ([index1] : List (List UInt8))).bind fun r7 =>
        (slices_Insert_string_string r1.1.1.2.2.2.2 r2.1.1 ([num2] : List (List UInt8))).bind fun r8 =>
        some (((r1.1.1.1, r1.1.1.2.1, r1.1.1.2.2.1, r7.1.1, r8.1.1), ()), ()))
        (some ((r1.1.1, ()), ()))))
def v_Store (a0 : Val) (index1 : List UInt8) (num2 : List UInt8) : Option ((Val × Int × Unit) × Unit) :=
  (v_array a0).bind fun r1 =>
  cond (!r1.1.1)
    (some ((((0 : Int), false, ([] : List UInt8), ([] : List (List UInt8)), ([] : List (List UInt8))), 1, ()), ()))
    ((n_IsInt index1).bind fun r2 =>
    cond (!r2.1.1)
      (some ((((0 : Int), false, ([] : List UInt8), ([] : List (List UInt8)), ([] : List (List UInt8))), 1, ()), ()))
      ((n_IsInt num2).bind fun r3 =>
      cond (!r3.1.1)
        (some ((((0 : Int), false, ([] : List UInt8), ([] : List (List UInt8)), ([] : List (List UInt8))), 1, ()), ()))
        ((v_store a0 index1 num2).bind fun r4 =>
        some ((r4.1.1, 0, ()), ()))))
def r_Num1 (sort0 : Int) (num1 : List UInt8) : Option (((List Nod) × Unit) × Unit) :=
  some ((([(3, sort0, ([] : List UInt8), num1, (0 : Int))] : List Nod), ()), ())
def r_Join_s4 (x : (List (List Nod)) × (List Nod) × Int × Unit) : Option (Ex × ((List (List Nod)) × (List Nod) × Int × Unit)) :=
  let kids1 := x.1
  let t5 := x.2.1
  let i6 := x.2.2.1
  cond (decide (i6 < (kids1.length : Int)))
    (grd (decide (0 ≤ i6) && decide (i6 < kids1.length)) (grd (decide (t5.length + (kids1.getD i6.toNat ([] : List Nod)).length ≤ maxN)) (some (Ex.normal, (kids1, t5 ++ (kids1.getD i6.toNat ([] : List Nod)), IntKind.i64.wrap (i6 + (1 : Int)), ())))))
    (some (Ex.exit 0, (kids1, t5, i6, ())))
def r_Join (n0 : Nod) (kids1 : List (List Nod)) : Option (((List Nod) × Unit) × Unit) :=
  (loopO r_Join_s4 (kids1, ([(n0.1, n0.2.1, n0.2.2.1, n0.2.2.2.1, (kids1.length : Int))] : List Nod), 0, ())).bind fun y1 =>
  cond (Ex.same y1.1 (Ex.exit 0))
    (some ((y1.2.2.1, ()), ()))
    (none)
def v_bindings_s3 (x : (List (List UInt8 × Val)) × Bool × (List (List UInt8 × Val)) × (List Bind) × Int × Int × Unit) : Option (Ex × ((List (List UInt8 × Val)) × Bool × (List (List UInt8 × Val)) × (List Bind) × Int × Int × Unit)) :=
  let t2 := x.1
  let t3 := x.2.1
  let out4 := x.2.2.1
  let t10 := x.2.2.2.1
  let t11 := x.2.2.2.2.1
  let t12 := x.2.2.2.2.2.1
  cond (decide (t12 < t11))
    (grd (decide (0 ≤ t12) && decide (t12 < t10.length)) (
      (v_Valid ((t10.getD t12.toNat zBind).2)).bind fun r1 =>
      cond (!r1.1.1)
        (some (Ex.ret, (([] : List (List UInt8 × Val)), false, out4, t10, t11, t12, ())))
        (cond (!((lookS ((t10.getD t12.toNat zBind).1) out4).isSome))
          (some (Ex.normal, (t2, t3, putS ((t10.getD t12.toNat zBind).1) ((t10.getD t12.toNat zBind).2) out4, t10, t11, IntKind.i64.wrap (t12 + (1 : Int)), ())))
          (some (Ex.normal, (t2, t3, out4, t10, t11, IntKind.i64.wrap (t12 + (1 : Int)), ()))))))
    (some (Ex.exit 0, (t2, t3, out4, t10, t11, t12, ())))
def v_bindings (env0 : List Bind) : Option (((List (List UInt8 × Val)) × Bool × Unit) × Unit) :=
  (loopO v_bindings_s3 (([] : List (List UInt8 × Val)), false, ([] : List (List UInt8 × Val)), env0, (env0.length : Int), 0, ())).bind fun y1 =>
  cond (Ex.same y1.1 (Ex.exit 0))
    (some ((y1.2.2.2.1, true, ()), ()))
    (cond (Ex.same y1.1 Ex.ret)
      (some ((y1.2.1, y1.2.2.1, ()), ()))
      (none))
def v_allValid_1 (v0 : Val) : Option ((Bool × Unit) × Unit) :=
  (v_Valid v0).bind fun r1 =>
  some ((!r1.1.1, ()), ())
def slices_IndexFunc_Value_Value_v_allValid_1_s2 (x : (List Val) × Unit × Int × Int × Int × Unit) : Option (Ex × ((List Val) × Unit × Int × Int × Int × Unit)) :=
  let s0 := x.1
  let f1 := x.2.1
  let t4 := x.2.2.1
  let t7 := x.2.2.2.1
  let t8 := x.2.2.2.2.1
  cond (decide (t8 < t7))
    (grd (decide (0 ≤ t8) && decide (t8 < s0.length)) (
      (v_allValid_1 (s0.getD t8.toNat zVal)).bind fun r1 =>
      cond (r1.1.1)
        (some (Ex.ret, (s0, (), t8, t7, t8, ())))
        (some (Ex.normal, (s0, (), t4, t7, IntKind.i64.wrap (t8 + (1 : Int)), ())))))
    (some (Ex.exit 0, (s0, (), t4, t7, t8, ())))
def slices_IndexFunc_Value_Value_v_allValid_1 (s0 : List Val) (f1 : Unit) : Option ((Int × Unit) × Unit) :=
  (loopO slices_IndexFunc_Value_Value_v_allValid_1_s2 (s0, (), 0, (s0.length : Int), 0, ())).bind fun y1 =>
  cond (Ex.same y1.1 (Ex.exit 0))
    (some ((-1, ()), ()))
    (cond (Ex.same y1.1 Ex.ret)
      (some ((y1.2.2.2.1, ()), ()))
      (none))
def slices_ContainsFunc_Value_Value_v_allValid_1 (s0 : List Val) (f1 : Unit) : Option ((Bool × Unit) × Unit) :=
  (slices_IndexFunc_Value_Value_v_allValid_1 s0 ()).bind fun r1 =>
  some ((decide (r1.1.1 ≥ (0 : Int)), ()), ())
def v_allValid (l0 : List Val) : Option ((Bool × Unit) × Unit) :=
  (slices_ContainsFunc_Value_Value_v_allValid_1 l0 ()).bind fun r1 =>
  some ((!r1.1.1, ()), ())
def v_meanings_1 (l0 : List Val) : Option ((Bool × Unit) × Unit) :=
  (v_allValid l0).bind fun r1 =>
  some ((!r1.1.1, ()), ())
def slices_IndexFunc_Value_Value_v_meanings_1_s2 (x : (List (List Val)) × Unit × Int × Int × Int × Unit) : Option (Ex × ((List (List Val)) × Unit × Int × Int × Int × Unit)) :=
  let s0 := x.1
  let f1 := x.2.1
  let t4 := x.2.2.1
  let t7 := x.2.2.2.1
  let t8 := x.2.2.2.2.1
  cond (decide (t8 < t7))
    (grd (decide (0 ≤ t8) && decide (t8 < s0.length)) (
      (v_meanings_1 (s0.getD t8.toNat ([] : List Val))).bind fun r1 =>
      cond (r1.1.1)
        (some (Ex.ret, (s0, (), t8, t7, t8, ())))
        (some (Ex.normal, (s0, (), t4, t7, IntKind.i64.wrap (t8 + (1 : Int)), ())))))
    (some (Ex.exit 0, (s0, (), t4, t7, t8, ())))
def slices_IndexFunc_Value_Value_v_meanings_1 (s0 : List (List Val)) (f1 : Unit) : Option ((Int × Unit) × Unit) :=
  (loopO slices_IndexFunc_Value_Value_v_meanings_1_s2 (s0, (), 0, (s0.length : Int), 0, ())).bind fun y1 =>
  cond (Ex.same y1.1 (Ex.exit 0))
    (some ((-1, ()), ()))
    (cond (Ex.same y1.1 Ex.ret)
      (some ((y1.2.2.2.1, ()), ()))
      (none))
def slices_ContainsFunc_Value_Value_v_meanings_1 (s0 : List (List Val)) (f1 : Unit) : Option ((Bool × Unit) × Unit) :=
  (slices_IndexFunc_Value_Value_v_meanings_1 s0 ()).bind fun r1 =>
  some ((decide (r1.1.1 ≥ (0 : Int)), ()), ())
def v_meanings_s3 (x : (List (List UInt8 × Interp)) × Bool × (List (List UInt8 × Interp)) × (List Interp) × Int × Int × Unit) : Option (Ex × ((List (List UInt8 × Interp)) × Bool × (List (List UInt8 × Interp)) × (List Interp) × Int × Int × Unit)) :=
  let t2 := x.1
  let t3 := x.2.1
  let out4 := x.2.2.1
  let t10 := x.2.2.2.1
  let t11 := x.2.2.2.2.1
  let t12 := x.2.2.2.2.2.1
  cond (decide (t12 < t11))
    (grd (decide (0 ≤ t12) && decide (t12 < t10.length)) (
      cond (((((t10.getD t12.toNat zInterp).2).1).length : Int) != (((((t10.getD t12.toNat zInterp).2).2).1).length : Int))
        (some (Ex.ret, (([] : List (List UInt8 × Interp)), false, out4, t10, t11, t12, ())))
        ((v_allValid ((((t10.getD t12.toNat zInterp).2).2).1)).bind fun r1 =>
        cond (!r1.1.1)
          (some (Ex.ret, (([] : List (List UInt8 × Interp)), false, out4, t10, t11, t12, ())))
          ((v_Valid ((((t10.getD t12.toNat zInterp).2).2).2)).bind fun r2 =>
          cond (!r2.1.1)
            (some (Ex.ret, (([] : List (List UInt8 × Interp)), false, out4, t10, t11, t12, ())))
            ((slices_ContainsFunc_Value_Value_v_meanings_1 (((t10.getD t12.toNat zInterp).2).1) ()).bind fun r3 =>
            cond (r3.1.1)
              (some (Ex.ret, (([] : List (List UInt8 × Interp)), false, out4, t10, t11, t12, ())))
              (cond (!((lookS ((t10.getD t12.toNat zInterp).1) out4).isSome))
                (some (Ex.normal, (t2, t3, putS ((t10.getD t12.toNat zInterp).1) (t10.getD t12.toNat zInterp) out4, t10, t11, IntKind.i64.wrap (t12 + (1 : Int)), ())))
                (some (Ex.normal, (t2, t3, out4, t10, t11, IntKind.i64.wrap (t12 + (1 : Int)), ())))))))))
    (some (Ex.exit 0, (t2, t3, out4, t10, t11, t12, ())))
def v_meanings (fns0 : List Interp) : Option (((List (List UInt8 × Interp)) × Bool × Unit) × Unit) :=
  (loopO v_meanings_s3 (([] : List (List UInt8 × Interp)), false, ([] : List (List UInt8 × Interp)), fns0, (fns0.length : Int), 0, ())).bind fun y1 =>
  cond (Ex.same y1.1 (Ex.exit 0))
    (some ((y1.2.2.2.1, true, ()), ()))
    (cond (Ex.same y1.1 Ex.ret)
      (some ((y1.2.1, y1.2.2.1, ()), ()))
      (none))
def t_numbered (sort0 : Int) (a1 : List UInt8) : Option ((Bool × Unit) × Unit) :=
  cond (sort0 == (2 : Int))
    ((n_IsInt a1).bind fun r1 =>
    cond (r1.1.1)
      (some ((true, ()), ()))
      (cond (sort0 == (3 : Int))
        ((n_Valid a1).bind fun r2 =>
        some ((r2.1.1, ()), ()))
        (some ((false, ()), ()))))
    (cond (sort0 == (3 : Int))
      ((n_Valid a1).bind fun r3 =>
      some ((r3.1.1, ()), ()))
      (some ((false, ()), ())))
def t_isSort (s0 : Int) : Option ((Bool × Unit) × Unit) :=
  cond (decide (s0 ≥ (1 : Int)))
    (some ((decide (s0 ≤ (4 : Int)), ()), ()))
    (some ((false, ()), ()))
def t_letter (c0 : Int) : Option ((Bool × Unit) × Unit) :=
  cond (decide (c0 ≥ (97 : Int)))
    (cond (decide (c0 ≤ (122 : Int)))
      (some ((true, ()), ()))
      (cond (decide (c0 ≥ (65 : Int)))
        (cond (decide (c0 ≤ (90 : Int)))
          (some ((true, ()), ()))
          (cond (c0 == (95 : Int))
            (some ((true, ()), ()))
            (cond (c0 == (36 : Int))
              (some ((true, ()), ()))
              (some ((c0 == (33 : Int), ()), ())))))
        (cond (c0 == (95 : Int))
          (some ((true, ()), ()))
          (cond (c0 == (36 : Int))
            (some ((true, ()), ()))
            (some ((c0 == (33 : Int), ()), ()))))))
    (cond (decide (c0 ≥ (65 : Int)))
      (cond (decide (c0 ≤ (90 : Int)))
        (some ((true, ()), ()))
        (cond (c0 == (95 : Int))
          (some ((true, ()), ()))
          (cond (c0 == (36 : Int))
            (some ((true, ()), ()))
            (some ((c0 == (33 : Int), ()), ())))))
      (cond (c0 == (95 : Int))
        (some ((true, ()), ()))
        (cond (c0 == (36 : Int))
          (some ((true, ()), ()))
          (some ((c0 == (33 : Int), ()), ())))))
def t_word (s0 : List UInt8) : Option ((Bool × Unit) × Unit) :=
  cond (s0 == ([97, 110, 100] : List UInt8))
    (some ((true, ()), ()))
    (cond (s0 == ([111, 114] : List UInt8))
      (some ((true, ()), ()))
      (cond (s0 == ([110, 111, 116] : List UInt8))
        (some ((true, ()), ()))
        (cond (s0 == ([105, 116, 101] : List UInt8))
          (some ((true, ()), ()))
          (cond (s0 == ([116, 114, 117, 101] : List UInt8))
            (some ((true, ()), ()))
            (cond (s0 == ([102, 97, 108, 115, 101] : List UInt8))
              (some ((true, ()), ()))
              (cond (s0 == ([108, 101, 116] : List UInt8))
                (some ((true, ()), ()))
                (cond (s0 == ([102, 111, 114, 97, 108, 108] : List UInt8))
                  (some ((true, ()), ()))
                  (cond (s0 == ([101, 120, 105, 115, 116, 115] : List UInt8))
                    (some ((true, ()), ()))
                    (cond (s0 == ([100, 105, 115, 116, 105, 110, 99, 116] : List UInt8))
                      (some ((true, ()), ()))
                      (cond (s0 == ([100, 105, 118] : List UInt8))
                        (some ((true, ()), ()))
                        (cond (s0 == ([109, 111, 100] : List UInt8))
                          (some ((true, ()), ()))
                          (cond (s0 == ([115, 101, 108, 101, 99, 116] : List UInt8))
                            (some ((true, ()), ()))
                            (cond (s0 == ([115, 116, 111, 114, 101] : List UInt8))
                              (some ((true, ()), ()))
                              (cond (s0 == ([99, 111, 110, 115, 116] : List UInt8))
                                (some ((true, ()), ()))
                                (cond (s0 == ([66, 111, 111, 108] : List UInt8))
                                  (some ((true, ()), ()))
                                  (cond (s0 == ([73, 110, 116] : List UInt8))
                                    (some ((true, ()), ()))
                                    (cond (s0 == ([82, 101, 97, 108] : List UInt8))
                                      (some ((true, ()), ()))
                                      (cond (s0 == ([65, 114, 114, 97, 121] : List UInt8))
                                        (some ((true, ()), ()))
                                        (some ((false, ()), ()))))))))))))))))))))
def t_IsName_s4 (x : (List UInt8) × Bool × Int × Int × Unit) : Option (Ex × ((List UInt8) × Bool × Int × Int × Unit)) :=
  let s0 := x.1
  let t2 := x.2.1
  let t23 := x.2.2.1
  let t24 := x.2.2.2.1
  cond (decide (t24 < t23))
    (grd (decide (0 ≤ t24) && decide (t24 < s0.length)) (
      (t_letter ((s0.getD t24.toNat 0).toNat : Int)).bind fun r1 =>
      cond (!r1.1.1)
        (cond (decide (((s0.getD t24.toNat 0).toNat : Int) ≥ (48 : Int)))
          (cond (!(decide (((s0.getD t24.toNat 0).toNat : Int) ≤ (57 : Int))))
            (cond (((s0.getD t24.toNat 0).toNat : Int) != (46 : Int))
              (cond (((s0.getD t24.toNat 0).toNat : Int) != (64 : Int))
                (some (Ex.ret, (s0, false, t23, t24, ())))
                (some (Ex.normal, (s0, t2, t23, IntKind.i64.wrap (t24 + (1 : Int)), ()))))
              (some (Ex.normal, (s0, t2, t23, IntKind.i64.wrap (t24 + (1 : Int)), ()))))
            (some (Ex.normal, (s0, t2, t23, IntKind.i64.wrap (t24 + (1 : Int)), ()))))
          (cond (((s0.getD t24.toNat 0).toNat : Int) != (46 : Int))
            (cond (((s0.getD t24.toNat 0).toNat : Int) != (64 : Int))
              (some (Ex.ret, (s0, false, t23, t24, ())))
              (some (Ex.normal, (s0, t2, t23, IntKind.i64.wrap (t24 + (1 : Int)), ()))))
            (some (Ex.normal, (s0, t2, t23, IntKind.i64.wrap (t24 + (1 : Int)), ())))))
        (some (Ex.normal, (s0, t2, t23, IntKind.i64.wrap (t24 + (1 : Int)), ())))))
    (some (Ex.exit 0, (s0, t2, t23, t24, ())))
def t_IsName (s0 : List UInt8) : Option ((Bool × Unit) × Unit) :=
  cond (s0 == ([] : List UInt8))
    (some ((false, ()), ()))
    (cond (decide ((s0.length : Int) > (40 : Int)))
      (some ((false, ()), ()))
      (grd (decide (0 ≤ (0 : Int)) && decide ((0 : Int) < s0.length)) (
        (t_letter ((s0.getD (0 : Int).toNat 0).toNat : Int)).bind fun r1 =>
        cond (!r1.1.1)
          (some ((false, ()), ()))
          ((t_word s0).bind fun r2 =>
          cond (r2.1.1)
            (some ((false, ()), ()))
            ((loopO t_IsName_s4 (s0, false, (s0.length : Int), 0, ())).bind fun y3 =>
            cond (Ex.same y3.1 (Ex.exit 0))
              (some ((true, ()), ()))
              (cond (Ex.same y3.1 Ex.ret)
                (some ((y3.2.2.1, ()), ()))
                (none)))))))
def t_fields (n0 : Nod) : Option ((Bool × Unit) × Unit) :=
  cond (n0.1 == (3 : Int))
    (cond (n0.2.2.1 == ([] : List UInt8))
      ((t_numbered n0.2.1 n0.2.2.2.1).bind fun r1 =>
      some ((r1.1.1, ()), ()))
      (some ((false, ()), ())))
    (cond (n0.1 == (4 : Int))
      ((t_isSort n0.2.1).bind fun r2 =>
      cond (r2.1.1)
        ((t_IsName n0.2.2.1).bind fun r3 =>
        cond (r3.1.1)
          (some ((n0.2.2.2.1 == ([] : List UInt8), ()), ()))
          (some ((false, ()), ())))
        (some ((false, ()), ())))
      (cond (n0.1 == (5 : Int))
        ((t_isSort n0.2.1).bind fun r4 =>
        cond (r4.1.1)
          ((t_IsName n0.2.2.1).bind fun r5 =>
          cond (r5.1.1)
            (some ((n0.2.2.2.1 == ([] : List UInt8), ()), ()))
            (some ((false, ()), ())))
          (some ((false, ()), ())))
        (cond (n0.1 == (16 : Int))
          (cond (n0.2.1 == (0 : Int))
            (cond (n0.2.2.1 == ([] : List UInt8))
              ((n_IsInt n0.2.2.2.1).bind fun r6 =>
              cond (r6.1.1)
                ((n_Sign n0.2.2.2.1).bind fun r7 =>
                some ((decide (r7.1.1 > (0 : Int)), ()), ()))
                (some ((false, ()), ())))
              (some ((false, ()), ())))
            (some ((false, ()), ())))
          (cond (n0.1 == (17 : Int))
            (cond (n0.2.1 == (0 : Int))
              (cond (n0.2.2.1 == ([] : List UInt8))
                ((n_IsInt n0.2.2.2.1).bind fun r8 =>
                cond (r8.1.1)
                  ((n_Sign n0.2.2.2.1).bind fun r9 =>
                  some ((decide (r9.1.1 > (0 : Int)), ()), ()))
                  (some ((false, ()), ())))
                (some ((false, ()), ())))
              (some ((false, ()), ())))
            (cond (decide (n0.1 ≥ (1 : Int)))
              (cond (decide (n0.1 ≤ (20 : Int)))
                (cond (n0.2.1 == (0 : Int))
                  (cond (n0.2.2.1 == ([] : List UInt8))
                    (some ((n0.2.2.2.1 == ([] : List UInt8), ()), ()))
                    (some ((false, ()), ())))
                  (some ((false, ()), ())))
                (some ((false, ()), ())))
              (some ((false, ()), ())))))))
def t_count (op0 : Int) (n1 : Int) : Option ((Bool × Unit) × Unit) :=
  cond (op0 == (1 : Int))
    (some ((n1 == (0 : Int), ()), ()))
    (cond (op0 == (2 : Int))
      (some ((n1 == (0 : Int), ()), ()))
      (cond (op0 == (3 : Int))
        (some ((n1 == (0 : Int), ()), ()))
        (cond (op0 == (4 : Int))
          (some ((n1 == (0 : Int), ()), ()))
          (cond (op0 == (5 : Int))
            (cond (decide (n1 ≥ (1 : Int)))
              (some ((decide (n1 ≤ (40 : Int)), ()), ()))
              (some ((false, ()), ())))
            (cond (op0 == (6 : Int))
              (some ((n1 == (1 : Int), ()), ()))
              (cond (op0 == (16 : Int))
                (some ((n1 == (1 : Int), ()), ()))
                (cond (op0 == (17 : Int))
                  (some ((n1 == (1 : Int), ()), ()))
                  (cond (op0 == (20 : Int))
                    (some ((n1 == (1 : Int), ()), ()))
                    (cond (op0 == (7 : Int))
                      (some ((true, ()), ()))
                      (cond (op0 == (8 : Int))
                        (some ((true, ()), ()))
                        (cond (op0 == (14 : Int))
                          (some ((decide (n1 ≥ (1 : Int)), ()), ()))
                          (cond (op0 == (10 : Int))
                            (some ((n1 == (3 : Int), ()), ()))
                            (cond (op0 == (19 : Int))
                              (some ((n1 == (3 : Int), ()), ()))
                              (some ((n1 == (2 : Int), ()), ())))))))))))))))
def t_all_1 (x0 : Int) (a1 : Option Int) : Option ((Bool × Unit) × Unit) :=
  grd (a1.isSome) (some ((x0 != (a1.getD (0 : Int)), ()), ()))
def slices_IndexFunc_int_int_t_all_1_s2 (x : (List Int) × (Option Int) × Int × Int × Int × Unit) : Option (Ex × ((List Int) × (Option Int) × Int × Int × Int × Unit)) :=
  let s0 := x.1
  let f1 := x.2.1
  let t4 := x.2.2.1
  let t7 := x.2.2.2.1
  let t8 := x.2.2.2.2.1
  cond (decide (t8 < t7))
    (grd (decide (0 ≤ t8) && decide (t8 < s0.length)) (
      (t_all_1 (s0.getD t8.toNat (0 : Int)) f1).bind fun r1 =>
      cond (r1.1.1)
        (some (Ex.ret, (s0, f1, t8, t7, t8, ())))
        (some (Ex.normal, (s0, f1, t4, t7, IntKind.i64.wrap (t8 + (1 : Int)), ())))))
    (some (Ex.exit 0, (s0, f1, t4, t7, t8, ())))
def slices_IndexFunc_int_int_t_all_1 (s0 : List Int) (f1 : Option Int) : Option ((Int × Unit) × Unit) :=
  (loopO slices_IndexFunc_int_int_t_all_1_s2 (s0, f1, 0, (s0.length : Int), 0, ())).bind fun y1 =>
  cond (Ex.same y1.1 (Ex.exit 0))
    (some ((-1, ()), ()))
    (cond (Ex.same y1.1 Ex.ret)
      (some ((y1.2.2.2.1, ()), ()))
      (none))
def slices_ContainsFunc_int_int_t_all_1 (s0 : List Int) (f1 : Option Int) : Option ((Bool × Unit) × Unit) :=
  (slices_IndexFunc_int_int_t_all_1 s0 f1).bind fun r1 =>
  some ((decide (r1.1.1 ≥ (0 : Int)), ()), ())
def t_all (sorts0 : List Int) (s1 : Int) : Option ((Bool × Unit) × Unit) :=
  (slices_ContainsFunc_int_int_t_all_1 sorts0 (some s1)).bind fun r1 =>
  some ((!r1.1.1, ()), ())
def t_when (is0 : Bool) (sort1 : Int) : Option ((Int × Unit) × Unit) :=
  cond (is0)
    (some ((sort1, ()), ()))
    (some ((0, ()), ()))
def t_numeric (s0 : Int) : Option ((Bool × Unit) × Unit) :=
  cond (s0 == (2 : Int))
    (some ((true, ()), ()))
    (some ((s0 == (3 : Int), ()), ()))
def t_sortOf (n0 : Nod) (sorts1 : List Int) : Option ((Int × Unit) × Unit) :=
  cond (n0.1 == (3 : Int))
    (some ((n0.2.1, ()), ()))
    (cond (n0.1 == (4 : Int))
      (some ((n0.2.1, ()), ()))
      (cond (n0.1 == (5 : Int))
        (some ((n0.2.1, ()), ()))
        (cond (n0.1 == (1 : Int))
          ((t_all sorts1 1).bind fun r1 =>
          (t_when r1.1.1 1).bind fun r2 =>
          some ((r2.1.1, ()), ()))
          (cond (n0.1 == (2 : Int))
            ((t_all sorts1 1).bind fun r3 =>
            (t_when r3.1.1 1).bind fun r4 =>
            some ((r4.1.1, ()), ()))
            (cond (n0.1 == (6 : Int))
              ((t_all sorts1 1).bind fun r5 =>
              (t_when r5.1.1 1).bind fun r6 =>
              some ((r6.1.1, ()), ()))
              (cond (n0.1 == (7 : Int))
                ((t_all sorts1 1).bind fun r7 =>
                (t_when r7.1.1 1).bind fun r8 =>
                some ((r8.1.1, ()), ()))
                (cond (n0.1 == (8 : Int))
                  ((t_all sorts1 1).bind fun r9 =>
                  (t_when r9.1.1 1).bind fun r10 =>
                  some ((r10.1.1, ()), ()))
                  (cond (n0.1 == (9 : Int))
                    ((t_all sorts1 1).bind fun r11 =>
                    (t_when r11.1.1 1).bind fun r12 =>
                    some ((r12.1.1, ()), ()))
                    (cond (n0.1 == (10 : Int))
                      (grd (decide (0 ≤ (0 : Int)) && decide ((0 : Int) < sorts1.length)) (
                        cond ((sorts1.getD (0 : Int).toNat (0 : Int)) == (1 : Int))
                          (grd (decide (0 ≤ (1 : Int)) && decide ((1 : Int) < sorts1.length)) (
                            grd (decide (0 ≤ (2 : Int)) && decide ((2 : Int) < sorts1.length)) (
                              grd (decide (0 ≤ (1 : Int)) && decide ((1 : Int) < sorts1.length)) (
                                (t_when ((sorts1.getD (1 : Int).toNat (0 : Int)) == (sorts1.getD (2 : Int).toNat (0 : Int))) (sorts1.getD (1 : Int).toNat (0 : Int))).bind fun r13 =>
                                some ((r13.1.1, ()), ())))))
                          (grd (decide (0 ≤ (1 : Int)) && decide ((1 : Int) < sorts1.length)) (
                            (t_when false (sorts1.getD (1 : Int).toNat (0 : Int))).bind fun r14 =>
                            some ((r14.1.1, ()), ())))))
                      (cond (n0.1 == (11 : Int))
                        (grd (decide (0 ≤ (0 : Int)) && decide ((0 : Int) < sorts1.length)) (
                          grd (decide (0 ≤ (1 : Int)) && decide ((1 : Int) < sorts1.length)) (
                            (t_when ((sorts1.getD (0 : Int).toNat (0 : Int)) == (sorts1.getD (1 : Int).toNat (0 : Int))) 1).bind fun r15 =>
                            some ((r15.1.1, ()), ()))))
                        (cond (n0.1 == (12 : Int))
                          (grd (decide (0 ≤ (0 : Int)) && decide ((0 : Int) < sorts1.length)) (
                            (t_numeric (sorts1.getD (0 : Int).toNat (0 : Int))).bind fun r16 =>
                            cond (r16.1.1)
                              (grd (decide (0 ≤ (0 : Int)) && decide ((0 : Int) < sorts1.length)) (
                                (t_all sorts1 (sorts1.getD (0 : Int).toNat (0 : Int))).bind fun r17 =>
                                (t_when r17.1.1 1).bind fun r18 =>
                                some ((r18.1.1, ()), ())))
                              ((t_when false 1).bind fun r19 =>
                              some ((r19.1.1, ()), ()))))
                          (cond (n0.1 == (13 : Int))
                            (grd (decide (0 ≤ (0 : Int)) && decide ((0 : Int) < sorts1.length)) (
                              (t_numeric (sorts1.getD (0 : Int).toNat (0 : Int))).bind fun r20 =>
                              cond (r20.1.1)
                                (grd (decide (0 ≤ (0 : Int)) && decide ((0 : Int) < sorts1.length)) (
                                  (t_all sorts1 (sorts1.getD (0 : Int).toNat (0 : Int))).bind fun r21 =>
                                  (t_when r21.1.1 1).bind fun r22 =>
                                  some ((r22.1.1, ()), ())))
                                ((t_when false 1).bind fun r23 =>
                                some ((r23.1.1, ()), ()))))
                            (cond (n0.1 == (14 : Int))
                              (grd (decide (0 ≤ (0 : Int)) && decide ((0 : Int) < sorts1.length)) (
                                (t_numeric (sorts1.getD (0 : Int).toNat (0 : Int))).bind fun r24 =>
                                cond (r24.1.1)
                                  (grd (decide (0 ≤ (0 : Int)) && decide ((0 : Int) < sorts1.length)) (
                                    (t_all sorts1 (sorts1.getD (0 : Int).toNat (0 : Int))).bind fun r25 =>
                                    grd (decide (0 ≤ (0 : Int)) && decide ((0 : Int) < sorts1.length)) (
                                      (t_when r25.1.1 (sorts1.getD (0 : Int).toNat (0 : Int))).bind fun r26 =>
                                      some ((r26.1.1, ()), ()))))
                                  (grd (decide (0 ≤ (0 : Int)) && decide ((0 : Int) < sorts1.length)) (
                                    (t_when false (sorts1.getD (0 : Int).toNat (0 : Int))).bind fun r27 =>
                                    some ((r27.1.1, ()), ())))))
                              (cond (n0.1 == (15 : Int))
                                (grd (decide (0 ≤ (0 : Int)) && decide ((0 : Int) < sorts1.length)) (
                                  (t_numeric (sorts1.getD (0 : Int).toNat (0 : Int))).bind fun r28 =>
                                  cond (r28.1.1)
                                    (grd (decide (0 ≤ (0 : Int)) && decide ((0 : Int) < sorts1.length)) (
                                      (t_all sorts1 (sorts1.getD (0 : Int).toNat (0 : Int))).bind fun r29 =>
                                      grd (decide (0 ≤ (0 : Int)) && decide ((0 : Int) < sorts1.length)) (
                                        (t_when r29.1.1 (sorts1.getD (0 : Int).toNat (0 : Int))).bind fun r30 =>
                                        some ((r30.1.1, ()), ()))))
                                    (grd (decide (0 ≤ (0 : Int)) && decide ((0 : Int) < sorts1.length)) (
                                      (t_when false (sorts1.getD (0 : Int).toNat (0 : Int))).bind fun r31 =>
                                      some ((r31.1.1, ()), ())))))
                                (cond (n0.1 == (16 : Int))
                                  (grd (decide (0 ≤ (0 : Int)) && decide ((0 : Int) < sorts1.length)) (
                                    (t_when ((sorts1.getD (0 : Int).toNat (0 : Int)) == (2 : Int)) 2).bind fun r32 =>
                                    some ((r32.1.1, ()), ())))
                                  (cond (n0.1 == (17 : Int))
                                    (grd (decide (0 ≤ (0 : Int)) && decide ((0 : Int) < sorts1.length)) (
                                      (t_when ((sorts1.getD (0 : Int).toNat (0 : Int)) == (2 : Int)) 2).bind fun r33 =>
                                      some ((r33.1.1, ()), ())))
                                    (cond (n0.1 == (18 : Int))
                                      (grd (decide (0 ≤ (0 : Int)) && decide ((0 : Int) < sorts1.length)) (
                                        cond ((sorts1.getD (0 : Int).toNat (0 : Int)) == (4 : Int))
                                          (grd (decide (0 ≤ (1 : Int)) && decide ((1 : Int) < sorts1.length)) (
                                            (t_when ((sorts1.getD (1 : Int).toNat (0 : Int)) == (2 : Int)) 2).bind fun r34 =>
                                            some ((r34.1.1, ()), ())))
                                          ((t_when false 2).bind fun r35 =>
                                          some ((r35.1.1, ()), ()))))
                                      (cond (n0.1 == (19 : Int))
                                        (grd (decide (0 ≤ (0 : Int)) && decide ((0 : Int) < sorts1.length)) (
                                          cond ((sorts1.getD (0 : Int).toNat (0 : Int)) == (4 : Int))
                                            (grd (decide (0 ≤ (1 : Int)) && decide ((1 : Int) ≤ sorts1.length)) (
                                              (t_all (sorts1.drop (1 : Int).toNat) 2).bind fun r36 =>
                                              (t_when r36.1.1 4).bind fun r37 =>
                                              some ((r37.1.1, ()), ())))
                                            ((t_when false 4).bind fun r38 =>
                                            some ((r38.1.1, ()), ()))))
                                        (grd (decide (0 ≤ (0 : Int)) && decide ((0 : Int) < sorts1.length)) (
                                          (t_when ((sorts1.getD (0 : Int).toNat (0 : Int)) == (2 : Int)) 4).bind fun r39 =>
                                          some ((r39.1.1, ()), ())))))))))))))))))))))
def t_look_s13 (v : Int) (i : Nat) (x : ((List Nod) × List (Int × Sml)) × (Int × Sml) × (List Int) × Unit) : Option (((List Nod) × List (Int × Sml)) × (Int × Sml) × (List Int) × Unit) :=
  let v4 := x.1
  let p9 := x.2.1
  let sorts10 := x.2.2.1
  grd (decide (0 ≤ v) && decide (v < v4.2.length)) (grd (decide (v.toNat < v4.2.length)) (grd (decide (sorts10.length + ([(v4.2.getD v.toNat ((0 : Int), (0 : Int), (0 : Int))).1] : List Int).length ≤ maxN)) (grd (decide (0 ≤ v) && decide (v < v4.2.length)) (grd (decide (v.toNat < v4.2.length)) (grd (decide (0 ≤ v) && decide (v < v4.2.length)) (grd (decide (v.toNat < v4.2.length)) (some (v4, (p9.1, maxA p9.2.1 (IntKind.i64.wrap ((((v4.2.getD v.toNat ((0 : Int), (0 : Int), (0 : Int))).2).1) + (1 : Int))), ((v4.2.getD v.toNat ((0 : Int), (0 : Int), (0 : Int))).2).2), sorts10 ++ ([(v4.2.getD v.toNat ((0 : Int), (0 : Int), (0 : Int))).1] : List Int), ()))))))))
def t_look_s13_M (y : ((List Nod) × List (Int × Sml)) × (Int × Sml) × (List Int) × Unit) (o : ((List Nod) × List (Int × Sml)) × (Int × Sml) × (List Int) × Unit) : ((List Nod) × List (Int × Sml)) × (Int × Sml) × (List Int) × Unit := (o.1, o.2.1, o.2.2.1, ())
def t_look_s13_O (y : ((List Nod) × List (Int × Sml)) × (Int × Sml) × (List Int) × Unit) : ((List Nod) × List (Int × Sml)) × (Int × Sml) × (List Int) × Unit := (y.1, y.2.1, y.2.2.1, ())
def t_look_s4 (x : (List Nod) × (Option View) × Bool × ((List Nod) × List (Int × Sml)) × (List Int) × Int × Unit) : Option (Ex × ((List Nod) × (Option View) × Bool × ((List Nod) × List (Int × Sml)) × (List Int) × Int × Unit)) :=
  let t0 := x.1
  let t2 := x.2.1
  let t3 := x.2.2.1
  let v4 := x.2.2.2.1
  let roots5 := x.2.2.2.2.1
  let i6 := x.2.2.2.2.2.1
  cond (decide (i6 ≥ (0 : Int)))
    (grd (decide (0 ≤ i6) && decide (i6 < t0.length)) (
      cond (decide ((((((t0.getD i6.toNat zNod).2).2).2).2) < (0 : Int)))
        (some (Ex.ret, (t0, (none : Option View), false, v4, roots5, i6, ())))
        (cond (decide ((((((t0.getD i6.toNat zNod).2).2).2).2) > (roots5.length : Int)))
          (some (Ex.ret, (t0, (none : Option View), false, v4, roots5, i6, ())))
          ((t_fields (t0.getD i6.toNat zNod)).bind fun r1 =>
          cond (!r1.1.1)
            (some (Ex.ret, (t0, (none : Option View), false, v4, roots5, i6, ())))
            ((t_count ((t0.getD i6.toNat zNod).1) (((((t0.getD i6.toNat zNod).2).2).2).2)).bind fun r2 =>
            cond (!r2.1.1)
              (some (Ex.ret, (t0, (none : Option View), false, v4, roots5, i6, ())))
              (grd (decide (0 ≤ IntKind.i64.wrap ((roots5.length : Int) - (((((t0.getD i6.toNat zNod).2).2).2).2))) && decide (IntKind.i64.wrap ((roots5.length : Int) - (((((t0.getD i6.toNat zNod).2).2).2).2)) ≤ roots5.length)) (
                grd (decide (((roots5.drop ((IntKind.i64.wrap ((roots5.length : Int) - (((((t0.getD i6.toNat zNod).2).2).2).2))).toNat)).take (roots5.length - (IntKind.i64.wrap ((roots5.length : Int) - (((((t0.getD i6.toNat zNod).2).2).2).2))).toNat)).length ≤ maxN)) (((foldO (fun p y => (t_look_s13 p.1 p.2 y).bind fun o => some (t_look_s13_M y o)) ((roots5.drop ((IntKind.i64.wrap ((roots5.length : Int) - (((((t0.getD i6.toNat zNod).2).2).2).2))).toNat)).take (roots5.length - (IntKind.i64.wrap ((roots5.length : Int) - (((((t0.getD i6.toNat zNod).2).2).2).2))).toNat)).zipIdx.reverse (v4, ((0 : Int), 1, IntKind.i64.wrap (i6 + (1 : Int))), ([] : List Int), ())).bind fun y => some ((), t_look_s13_O y)).bind fun y3 =>
                (t_sortOf (t0.getD i6.toNat zNod) y3.2.2.2.1).bind fun r4 =>
                cond (r4.1.1 == (0 : Int))
                  (some (Ex.ret, (t0, (none : Option View), false, y3.2.1, roots5, i6, ())))
                  (cond (((t0.getD i6.toNat zNod).1) == (15 : Int))
                    (grd (decide (0 ≤ IntKind.i64.wrap (i6 + (1 : Int))) && decide (IntKind.i64.wrap (i6 + (1 : Int)) < t0.length)) (
                      cond (((t0.getD (IntKind.i64.wrap (i6 + (1 : Int))).toNat zNod).1) != (3 : Int))
                        (some (Ex.ret, (t0, (none : Option View), false, y3.2.1, roots5, i6, ())))
                        (grd (decide (0 ≤ i6) && decide (i6 < y3.2.1.2.length)) (grd (decide (i6.toNat < y3.2.1.2.length)) (grd (decide (0 ≤ IntKind.i64.wrap ((roots5.length : Int) - (((((t0.getD i6.toNat zNod).2).2).2).2))) && decide (IntKind.i64.wrap ((roots5.length : Int) - (((((t0.getD i6.toNat zNod).2).2).2).2)) ≤ roots5.length)) (grd (decide (((IntKind.i64.wrap ((roots5.length : Int) - (((((t0.getD i6.toNat zNod).2).2).2).2))).toNat) + ([i6] : List Int).length ≤ maxN)) (some (Ex.normal, (t0, t2, t3, (y3.2.1.1, y3.2.1.2.set i6.toNat (r4.1.1, y3.2.2.1.2)), roots5.take ((IntKind.i64.wrap ((roots5.length : Int) - (((((t0.getD i6.toNat zNod).2).2).2).2))).toNat) ++ ([i6] : List Int), IntKind.i64.wrap (i6 - (1 : Int)), ())))))))))
                    (grd (decide (0 ≤ i6) && decide (i6 < y3.2.1.2.length)) (grd (decide (i6.toNat < y3.2.1.2.length)) (grd (decide (0 ≤ IntKind.i64.wrap ((roots5.length : Int) - (((((t0.getD i6.toNat zNod).2).2).2).2))) && decide (IntKind.i64.wrap ((roots5.length : Int) - (((((t0.getD i6.toNat zNod).2).2).2).2)) ≤ roots5.length)) (grd (decide (((IntKind.i64.wrap ((roots5.length : Int) - (((((t0.getD i6.toNat zNod).2).2).2).2))).toNat) + ([i6] : List Int).length ≤ maxN)) (some (Ex.normal, (t0, t2, t3, (y3.2.1.1, y3.2.1.2.set i6.toNat (r4.1.1, y3.2.2.1.2)), roots5.take ((IntKind.i64.wrap ((roots5.length : Int) - (((((t0.getD i6.toNat zNod).2).2).2).2))).toNat) ++ ([i6] : List Int), IntKind.i64.wrap (i6 - (1 : Int)), ()))))))))))))))))
    (some (Ex.exit 0, (t0, t2, t3, v4, roots5, i6, ())))
def t_look (t0 : List Nod) : Option (((Option View) × Bool × Unit) × Unit) :=
  grd (decide (0 ≤ (t0.length : Int)) && decide ((t0.length : Int) ≤ (t0.length : Int)) && decide ((t0.length : Int) ≤ maxN)) (
    (loopO t_look_s4 (t0, (none : Option View), false, (t0, List.replicate (t0.length : Int).toNat ((0 : Int), (0 : Int), (0 : Int))), ([] : List Int), IntKind.i64.wrap ((t0.length : Int) - (1 : Int)), ())).bind fun y1 =>
    cond (Ex.same y1.1 (Ex.exit 0))
      (some ((some y1.2.2.2.2.1, (y1.2.2.2.2.2.1.length : Int) == (1 : Int), ()), ()))
      (cond (Ex.same y1.1 Ex.ret)
        (some ((y1.2.2.1, y1.2.2.2.1, ()), ()))
        (none)))
def t_view_large (v0 : Option View) : Option ((Bool × Unit) × Unit) :=
  grd (v0.isSome) (
    cond (decide ((((v0.getD zView).1).length : Int) > (20000 : Int)))
      (some ((true, ()), ()))
      (grd (v0.isSome) (grd (decide (0 ≤ (0 : Int)) && decide ((0 : Int) < ((v0.getD zView).2).length)) (some ((decide ((((((v0.getD zView).2).getD (0 : Int).toNat ((0 : Int), (0 : Int), (0 : Int))).2).1) > (257 : Int)), ()), ())))))
def t_view_kids_s4 (x : (Option View) × (List Int) × Int × Int × Int × Unit) : Option (Ex × ((Option View) × (List Int) × Int × Int × Int × Unit)) :=
  let v0 := x.1
  let out5 := x.2.1
  let at6 := x.2.2.1
  let t16 := x.2.2.2.1
  let t17 := x.2.2.2.2.1
  cond (decide (t17 < t16))
    (grd (decide (out5.length + ([at6] : List Int).length ≤ maxN)) (grd (v0.isSome) (grd (decide (0 ≤ at6) && decide (at6 < ((v0.getD zView).2).length)) (some (Ex.normal, (v0, out5 ++ ([at6] : List Int), ((((v0.getD zView).2).getD at6.toNat ((0 : Int), (0 : Int), (0 : Int))).2).2, t16, IntKind.i64.wrap (t17 + (1 : Int)), ()))))))
    (some (Ex.exit 0, (v0, out5, at6, t16, t17, ())))
def t_view_kids (v0 : Option View) (i1 : Int) : Option (((List Int) × Unit) × Unit) :=
  grd (v0.isSome) (
    grd (decide (0 ≤ i1) && decide (i1 < ((v0.getD zView).1).length)) (
      (loopO t_view_kids_s4 (v0, ([] : List Int), IntKind.i64.wrap (i1 + (1 : Int)), ((((((v0.getD zView).1).getD i1.toNat zNod).2).2).2).2, 0, ())).bind fun y1 =>
      cond (Ex.same y1.1 (Ex.exit 0))
        (some ((y1.2.2.1, ()), ()))
        (none)))
def t_view_signature_s3 (x : (Option View) × ((List UInt8) × Choices) × ((List UInt8) × (List Int) × Int) × (List Int) × Int × Int × Unit) : Option (Ex × ((Option View) × ((List UInt8) × Choices) × ((List UInt8) × (List Int) × Int) × (List Int) × Int × Int × Unit)) :=
  let v0 := x.1
  let t4 := x.2.1
  let f5 := x.2.2.1
  let t27 := x.2.2.2.1
  let t28 := x.2.2.2.2.1
  let t29 := x.2.2.2.2.2.1
  cond (decide (t29 < t28))
    (grd (decide (0 ≤ t29) && decide (t29 < t27.length)) (grd (v0.isSome) (grd (decide (0 ≤ t27.getD t29.toNat (0 : Int)) && decide (t27.getD t29.toNat (0 : Int) < ((v0.getD zView).2).length)) (grd (decide (f5.2.1.length + ([(((v0.getD zView).2).getD (t27.getD t29.toNat (0 : Int)).toNat ((0 : Int), (0 : Int), (0 : Int))).1] : List Int).length ≤ maxN)) (some (Ex.normal, (v0, t4, (f5.1, f5.2.1 ++ ([(((v0.getD zView).2).getD (t27.getD t29.toNat (0 : Int)).toNat ((0 : Int), (0 : Int), (0 : Int))).1] : List Int), f5.2.2), t27, t28, IntKind.i64.wrap (t29 + (1 : Int)), ())))))))
    (some (Ex.exit 0, (v0, t4, f5, t27, t28, t29, ())))
def t_view_signature (v0 : Option View) (i1 : Int) : Option ((((List UInt8) × Choices) × Unit) × Unit) :=
  grd (v0.isSome) (
    grd (decide (0 ≤ i1) && decide (i1 < ((v0.getD zView).1).length)) (
      grd (v0.isSome) (
        grd (decide (0 ≤ i1) && decide (i1 < ((v0.getD zView).1).length)) (
          (t_view_kids v0 i1).bind fun r1 =>
          (loopO t_view_signature_s3 (v0, (([] : List UInt8), ([] : List Int), (0 : Int)), ((((((v0.getD zView).1).getD i1.toNat zNod).2).2).1, ([] : List Int), ((((v0.getD zView).1).getD i1.toNat zNod).2).1), r1.1.1, (r1.1.1.length : Int), 0, ())).bind fun y2 =>
          cond (Ex.same y2.1 (Ex.exit 0))
            (some ((y2.2.2.2.1, ()), ()))
            (none)))))
def slices_Equal_int_int_s4 (x : (List Int) × (List Int) × Bool × Int × Int × Unit) : Option (Ex × ((List Int) × (List Int) × Bool × Int × Int × Unit)) :=
  let s10 := x.1
  let s21 := x.2.1
  let t4 := x.2.2.1
  let t12 := x.2.2.2.1
  let t13 := x.2.2.2.2.1
  cond (decide (t13 < t12))
    (grd (decide (0 ≤ t13) && decide (t13 < s10.length)) (
      grd (decide (0 ≤ t13) && decide (t13 < s21.length)) (
        cond ((s10.getD t13.toNat (0 : Int)) != (s21.getD t13.toNat (0 : Int)))
          (some (Ex.ret, (s10, s21, false, t12, t13, ())))
          (some (Ex.normal, (s10, s21, t4, t12, IntKind.i64.wrap (t13 + (1 : Int)), ()))))))
    (some (Ex.exit 0, (s10, s21, t4, t12, t13, ())))
def slices_Equal_int_int (s10 : List Int) (s21 : List Int) : Option ((Bool × Unit) × Unit) :=
  cond ((s10.length : Int) != (s21.length : Int))
    (some ((false, ()), ()))
    ((loopO slices_Equal_int_int_s4 (s10, s21, false, (s10.length : Int), 0, ())).bind fun y1 =>
    cond (Ex.same y1.1 (Ex.exit 0))
      (some ((true, ()), ()))
      (cond (Ex.same y1.1 Ex.ret)
        (some ((y1.2.2.2.1, ()), ()))
        (none)))
def t_same (f0 : (List UInt8) × Choices) (g1 : (List UInt8) × Choices) : Option ((Bool × Unit) × Unit) :=
  cond (f0.1 == g1.1)
    (cond (f0.2.2 == g1.2.2)
      ((slices_Equal_int_int f0.2.1 g1.2.1).bind fun r1 =>
      some ((r1.1.1, ()), ()))
      (some ((false, ()), ())))
    (some ((false, ()), ()))
def t_view_names_s5 (x : (Option View) × (List Vr) × (List ((List UInt8) × Choices)) × Bool × (List (List UInt8 × Vr)) × (List (List UInt8 × (List UInt8) × Choices)) × (List Vr) × (List ((List UInt8) × Choices)) × (List Nod) × Int × Int × Unit) : Option (Ex × ((Option View) × (List Vr) × (List ((List UInt8) × Choices)) × Bool × (List (List UInt8 × Vr)) × (List (List UInt8 × (List UInt8) × Choices)) × (List Vr) × (List ((List UInt8) × Choices)) × (List Nod) × Int × Int × Unit)) :=
  let v0 := x.1
  let t2 := x.2.1
  let t3 := x.2.2.1
  let t4 := x.2.2.2.1
  let vars5 := x.2.2.2.2.1
  let funcs6 := x.2.2.2.2.2.1
  let l7 := x.2.2.2.2.2.2.1
  let m8 := x.2.2.2.2.2.2.2.1
  let t25 := x.2.2.2.2.2.2.2.2.1
  let t26 := x.2.2.2.2.2.2.2.2.2.1
  let t27 := x.2.2.2.2.2.2.2.2.2.2.1
  cond (decide (t27 < t26))
    (grd (decide (0 ≤ t27) && decide (t27 < t25.length)) (
      cond (((t25.getD t27.toNat zNod).1) == (4 : Int))
        (cond (!((lookS ((((t25.getD t27.toNat zNod).2).2).1) vars5).isSome))
          (grd (decide (l7.length + ([((((t25.getD t27.toNat zNod).2).2).1, ((t25.getD t27.toNat zNod).2).1)] : List Vr).length ≤ maxN)) (
            cond ((lookS ((((t25.getD t27.toNat zNod).2).2).1) funcs6).isSome)
              (some (Ex.ret, (v0, ([] : List Vr), ([] : List ((List UInt8) × Choices)), false, putS ((((t25.getD t27.toNat zNod).2).2).1) ((((t25.getD t27.toNat zNod).2).2).1, ((t25.getD t27.toNat zNod).2).1) vars5, funcs6, l7 ++ ([((((t25.getD t27.toNat zNod).2).2).1, ((t25.getD t27.toNat zNod).2).1)] : List Vr), m8, t25, t26, t27, ())))
              (cond ((((t25.getD t27.toNat zNod).2).1) != (((t25.getD t27.toNat zNod).2).1))
                (some (Ex.ret, (v0, ([] : List Vr), ([] : List ((List UInt8) × Choices)), false, putS ((((t25.getD t27.toNat zNod).2).2).1) ((((t25.getD t27.toNat zNod).2).2).1, ((t25.getD t27.toNat zNod).2).1) vars5, funcs6, l7 ++ ([((((t25.getD t27.toNat zNod).2).2).1, ((t25.getD t27.toNat zNod).2).1)] : List Vr), m8, t25, t26, t27, ())))
                (some (Ex.normal, (v0, t2, t3, t4, putS ((((t25.getD t27.toNat zNod).2).2).1) ((((t25.getD t27.toNat zNod).2).2).1, ((t25.getD t27.toNat zNod).2).1) vars5, funcs6, l7 ++ ([((((t25.getD t27.toNat zNod).2).2).1, ((t25.getD t27.toNat zNod).2).1)] : List Vr), m8, t25, t26, IntKind.i64.wrap (t27 + (1 : Int)), ()))))))
          (cond ((lookS ((((t25.getD t27.toNat zNod).2).2).1) funcs6).isSome)
            (some (Ex.ret, (v0, ([] : List Vr), ([] : List ((List UInt8) × Choices)), false, vars5, funcs6, l7, m8, t25, t26, t27, ())))
            (cond ((((lookS ((((t25.getD t27.toNat zNod).2).2).1) vars5).getD zVr).2) != (((t25.getD t27.toNat zNod).2).1))
              (some (Ex.ret, (v0, ([] : List Vr), ([] : List ((List UInt8) × Choices)), false, vars5, funcs6, l7, m8, t25, t26, t27, ())))
              (some (Ex.normal, (v0, t2, t3, t4, vars5, funcs6, l7, m8, t25, t26, IntKind.i64.wrap (t27 + (1 : Int)), ()))))))
        (cond (((t25.getD t27.toNat zNod).1) == (5 : Int))
          ((t_view_signature v0 t27).bind fun r1 =>
          cond (!((lookS ((((t25.getD t27.toNat zNod).2).2).1) funcs6).isSome))
            (grd (decide (m8.length + ([r1.1.1] : List ((List UInt8) × Choices)).length ≤ maxN)) (
              cond ((lookS ((((t25.getD t27.toNat zNod).2).2).1) vars5).isSome)
                (some (Ex.ret, (v0, ([] : List Vr), ([] : List ((List UInt8) × Choices)), false, vars5, putS ((((t25.getD t27.toNat zNod).2).2).1) r1.1.1 funcs6, l7, m8 ++ ([r1.1.1] : List ((List UInt8) × Choices)), t25, t26, t27, ())))
                ((t_same r1.1.1 r1.1.1).bind fun r2 =>
                cond (!r2.1.1)
                  (some (Ex.ret, (v0, ([] : List Vr), ([] : List ((List UInt8) × Choices)), false, vars5, putS ((((t25.getD t27.toNat zNod).2).2).1) r1.1.1 funcs6, l7, m8 ++ ([r1.1.1] : List ((List UInt8) × Choices)), t25, t26, t27, ())))
                  (some (Ex.normal, (v0, t2, t3, t4, vars5, putS ((((t25.getD t27.toNat zNod).2).2).1) r1.1.1 funcs6, l7, m8 ++ ([r1.1.1] : List ((List UInt8) × Choices)), t25, t26, IntKind.i64.wrap (t27 + (1 : Int)), ()))))))
            (cond ((lookS ((((t25.getD t27.toNat zNod).2).2).1) vars5).isSome)
              (some (Ex.ret, (v0, ([] : List Vr), ([] : List ((List UInt8) × Choices)), false, vars5, funcs6, l7, m8, t25, t26, t27, ())))
              ((t_same ((lookS ((((t25.getD t27.toNat zNod).2).2).1) funcs6).getD (([] : List UInt8), ([] : List Int), (0 : Int))) r1.1.1).bind fun r3 =>
              cond (!r3.1.1)
                (some (Ex.ret, (v0, ([] : List Vr), ([] : List ((List UInt8) × Choices)), false, vars5, funcs6, l7, m8, t25, t26, t27, ())))
                (some (Ex.normal, (v0, t2, t3, t4, vars5, funcs6, l7, m8, t25, t26, IntKind.i64.wrap (t27 + (1 : Int)), ()))))))
          (some (Ex.normal, (v0, t2, t3, t4, vars5, funcs6, l7, m8, t25, t26, IntKind.i64.wrap (t27 + (1 : Int)), ()))))))
    (some (Ex.exit 0, (v0, t2, t3, t4, vars5, funcs6, l7, m8, t25, t26, t27, ())))
def t_view_names (v0 : Option View) : Option (((List Vr) × (List ((List UInt8) × Choices)) × Bool × Unit) × Unit) :=
  grd (v0.isSome) (
    (loopO t_view_names_s5 (v0, ([] : List Vr), ([] : List ((List UInt8) × Choices)), false, ([] : List (List UInt8 × Vr)), ([] : List (List UInt8 × (List UInt8) × Choices)), ([] : List Vr), ([] : List ((List UInt8) × Choices)), (v0.getD zView).1, (((v0.getD zView).1).length : Int), 0, ())).bind fun y1 =>
    cond (Ex.same y1.1 (Ex.exit 0))
      (some ((y1.2.2.2.2.2.2.2.1, y1.2.2.2.2.2.2.2.2.1, true, ()), ()))
      (cond (Ex.same y1.1 Ex.ret)
        (some ((y1.2.2.1, y1.2.2.2.1, y1.2.2.2.2.1, ()), ()))
        (none)))
def t_known (t0 : List Nod) : Option (((Option View) × Bool × Unit) × Unit) :=
  cond ((t0.length : Int) == (0 : Int))
    (some (((none : Option View), false, ()), ()))
    (cond (decide ((t0.length : Int) > (20000 : Int)))
      (some (((none : Option View), false, ()), ()))
      ((t_look t0).bind fun r1 =>
      cond (!r1.1.2.1)
        (some (((none : Option View), false, ()), ()))
        ((t_view_large r1.1.1).bind fun r2 =>
        cond (r2.1.1)
          (some (((none : Option View), false, ()), ()))
          ((t_view_names r1.1.1).bind fun r3 =>
          cond (!r3.1.2.2.1)
            (some (((none : Option View), false, ()), ()))
            (some ((r1.1.1, true, ()), ()))))))
def t_Valid (t0 : List Nod) : Option ((Bool × Unit) × Unit) :=
  (t_known t0).bind fun r1 =>
  some ((r1.1.2.1, ()), ())
def v_evaluator_variable (e0 : Evl) (n1 : Nod) : Option ((Val × Int × Unit) × (Evl × Unit)) :=
  cond (!((lookS n1.2.2.1 e0.2.2.1).isSome))
    (some ((((0 : Int), false, ([] : List UInt8), ([] : List (List UInt8)), ([] : List (List UInt8))), 7, ()), e0, ()))
    (cond ((((lookS n1.2.2.1 e0.2.2.1).getD zVal).1) != n1.2.1)
      (some ((((0 : Int), false, ([] : List UInt8), ([] : List (List UInt8)), ([] : List (List UInt8))), 3, ()), e0, ()))
      (some (((lookS n1.2.2.1 e0.2.2.1).getD zVal, 0, ()), e0, ())))
def slices_Equal_string_string_s4 (x : (List (List UInt8)) × (List (List UInt8)) × Bool × Int × Int × Unit) : Option (Ex × ((List (List UInt8)) × (List (List UInt8)) × Bool × Int × Int × Unit)) :=
  let s10 := x.1
  let s21 := x.2.1
  let t4 := x.2.2.1
  let t12 := x.2.2.2.1
  let t13 := x.2.2.2.2.1
  cond (decide (t13 < t12))
    (grd (decide (0 ≤ t13) && decide (t13 < s10.length)) (
      grd (decide (0 ≤ t13) && decide (t13 < s21.length)) (
        cond (!((s10.getD t13.toNat ([] : List UInt8)) == (s21.getD t13.toNat ([] : List UInt8))))
          (some (Ex.ret, (s10, s21, false, t12, t13, ())))
          (some (Ex.normal, (s10, s21, t4, t12, IntKind.i64.wrap (t13 + (1 : Int)), ()))))))
    (some (Ex.exit 0, (s10, s21, t4, t12, t13, ())))
def slices_Equal_string_string (s10 : List (List UInt8)) (s21 : List (List UInt8)) : Option ((Bool × Unit) × Unit) :=
  cond ((s10.length : Int) != (s21.length : Int))
    (some ((false, ()), ()))
    ((loopO slices_Equal_string_string_s4 (s10, s21, false, (s10.length : Int), 0, ())).bind fun y1 =>
    cond (Ex.same y1.1 (Ex.exit 0))
      (some ((true, ()), ()))
      (cond (Ex.same y1.1 Ex.ret)
        (some ((y1.2.2.2.1, ()), ()))
        (none)))
def v_Equal (a0 : Val) (b1 : Val) : Option ((Bool × Unit) × Unit) :=
  cond (a0.1 == b1.1)
    (cond (a0.2.1 == b1.2.1)
      (cond (a0.2.2.1 == b1.2.2.1)
        ((slices_Equal_string_string a0.2.2.2.1 b1.2.2.2.1).bind fun r1 =>
        cond (r1.1.1)
          ((slices_Equal_string_string a0.2.2.2.2 b1.2.2.2.2).bind fun r2 =>
          some ((r2.1.1, ()), ()))
          (some ((false, ()), ())))
        (some ((false, ()), ())))
      (some ((false, ()), ())))
    (some ((false, ()), ()))
def slices_EqualFunc_Value_Value_Value_Value_v_Equal_s4 (x : (List Val) × Unit × Bool × (List Val) × Int × Int × Unit) : Option (Ex × ((List Val) × Unit × Bool × (List Val) × Int × Int × Unit)) :=
  let s21 := x.1
  let eq2 := x.2.1
  let t6 := x.2.2.1
  let t15 := x.2.2.2.1
  let t16 := x.2.2.2.2.1
  let t17 := x.2.2.2.2.2.1
  cond (decide (t17 < t16))
    (grd (decide (0 ≤ t17) && decide (t17 < t15.length)) (
      grd (decide (0 ≤ t17) && decide (t17 < s21.length)) (
        (v_Equal (t15.getD t17.toNat zVal) (s21.getD t17.toNat zVal)).bind fun r1 =>
        cond (!r1.1.1)
          (some (Ex.ret, (s21, (), false, t15, t16, t17, ())))
          (some (Ex.normal, (s21, (), t6, t15, t16, IntKind.i64.wrap (t17 + (1 : Int)), ()))))))
    (some (Ex.exit 0, (s21, (), t6, t15, t16, t17, ())))
def slices_EqualFunc_Value_Value_Value_Value_v_Equal (s10 : List Val) (s21 : List Val) (eq2 : Unit) : Option ((Bool × Unit) × Unit) :=
  cond ((s10.length : Int) != (s21.length : Int))
    (some ((false, ()), ()))
    ((loopO slices_EqualFunc_Value_Value_Value_Value_v_Equal_s4 (s21, (), false, s10, (s10.length : Int), 0, ())).bind fun y1 =>
    cond (Ex.same y1.1 (Ex.exit 0))
      (some ((true, ()), ()))
      (cond (Ex.same y1.1 Ex.ret)
        (some ((y1.2.2.2.1, ()), ()))
        (none)))
def v_evaluator_call_1 (l0 : List Val) (a1 : Option (List Val)) : Option ((Bool × Unit) × Unit) :=
  grd (a1.isSome) (
    (slices_EqualFunc_Value_Value_Value_Value_v_Equal l0 (a1.getD ([] : List Val)) ()).bind fun r1 =>
    some ((r1.1.1, ()), ()))
def slices_IndexFunc_Value_Value_v_evaluator_call_1_s2 (x : (List (List Val)) × (Option (List Val)) × Int × Int × Int × Unit) : Option (Ex × ((List (List Val)) × (Option (List Val)) × Int × Int × Int × Unit)) :=
  let s0 := x.1
  let f1 := x.2.1
  let t4 := x.2.2.1
  let t7 := x.2.2.2.1
  let t8 := x.2.2.2.2.1
  cond (decide (t8 < t7))
    (grd (decide (0 ≤ t8) && decide (t8 < s0.length)) (
      (v_evaluator_call_1 (s0.getD t8.toNat ([] : List Val)) f1).bind fun r1 =>
      cond (r1.1.1)
        (some (Ex.ret, (s0, f1, t8, t7, t8, ())))
        (some (Ex.normal, (s0, f1, t4, t7, IntKind.i64.wrap (t8 + (1 : Int)), ())))))
    (some (Ex.exit 0, (s0, f1, t4, t7, t8, ())))
def slices_IndexFunc_Value_Value_v_evaluator_call_1 (s0 : List (List Val)) (f1 : Option (List Val)) : Option ((Int × Unit) × Unit) :=
  (loopO slices_IndexFunc_Value_Value_v_evaluator_call_1_s2 (s0, f1, 0, (s0.length : Int), 0, ())).bind fun y1 =>
  cond (Ex.same y1.1 (Ex.exit 0))
    (some ((-1, ()), ()))
    (cond (Ex.same y1.1 Ex.ret)
      (some ((y1.2.2.2.1, ()), ()))
      (none))
def v_evaluator_call (e0 : Evl) (n1 : Nod) (kids2 : List Val) : Option ((Val × Int × Unit) × (Evl × Unit)) :=
  cond (!((lookS n1.2.2.1 e0.2.2.2).isSome))
    (some ((((0 : Int), false, ([] : List UInt8), ([] : List (List UInt8)), ([] : List (List UInt8))), 4, ()), e0, ()))
    ((slices_IndexFunc_Value_Value_v_evaluator_call_1 ((((lookS n1.2.2.1 e0.2.2.2).getD zInterp).2).1) (some kids2)).bind fun r1 =>
    cond (decide (r1.1.1 ≥ (0 : Int)))
      (grd (decide (0 ≤ r1.1.1) && decide (r1.1.1 < (((((lookS n1.2.2.1 e0.2.2.2).getD zInterp).2).2).1).length)) (
        cond ((((((((lookS n1.2.2.1 e0.2.2.2).getD zInterp).2).2).1).getD r1.1.1.toNat zVal).1) != n1.2.1)
          (some ((((0 : Int), false, ([] : List UInt8), ([] : List (List UInt8)), ([] : List (List UInt8))), 3, ()), e0, ()))
          (some (((((((lookS n1.2.2.1 e0.2.2.2).getD zInterp).2).2).1).getD r1.1.1.toNat zVal, 0, ()), e0, ()))))
      (cond (((((((lookS n1.2.2.1 e0.2.2.2).getD zInterp).2).2).2).1) != n1.2.1)
        (some ((((0 : Int), false, ([] : List UInt8), ([] : List (List UInt8)), ([] : List (List UInt8))), 3, ()), e0, ()))
        (some ((((((lookS n1.2.2.1 e0.2.2.2).getD zInterp).2).2).2, 0, ()), e0, ()))))
def v_not (v0 : Val) : Option ((Bool × Unit) × Unit) :=
  some ((!v0.2.1, ()), ())
def slices_IndexFunc_Value_Value_v_not_s2 (x : (List Val) × Unit × Int × Int × Int × Unit) : Option (Ex × ((List Val) × Unit × Int × Int × Int × Unit)) :=
  let s0 := x.1
  let f1 := x.2.1
  let t4 := x.2.2.1
  let t7 := x.2.2.2.1
  let t8 := x.2.2.2.2.1
  cond (decide (t8 < t7))
    (grd (decide (0 ≤ t8) && decide (t8 < s0.length)) (
      (v_not (s0.getD t8.toNat zVal)).bind fun r1 =>
      cond (r1.1.1)
        (some (Ex.ret, (s0, (), t8, t7, t8, ())))
        (some (Ex.normal, (s0, (), t4, t7, IntKind.i64.wrap (t8 + (1 : Int)), ())))))
    (some (Ex.exit 0, (s0, (), t4, t7, t8, ())))
def slices_IndexFunc_Value_Value_v_not (s0 : List Val) (f1 : Unit) : Option ((Int × Unit) × Unit) :=
  (loopO slices_IndexFunc_Value_Value_v_not_s2 (s0, (), 0, (s0.length : Int), 0, ())).bind fun y1 =>
  cond (Ex.same y1.1 (Ex.exit 0))
    (some ((-1, ()), ()))
    (cond (Ex.same y1.1 Ex.ret)
      (some ((y1.2.2.2.1, ()), ()))
      (none))
def slices_ContainsFunc_Value_Value_v_not (s0 : List Val) (f1 : Unit) : Option ((Bool × Unit) × Unit) :=
  (slices_IndexFunc_Value_Value_v_not s0 ()).bind fun r1 =>
  some ((decide (r1.1.1 ≥ (0 : Int)), ()), ())
def v_truth (is0 : Bool) : Option ((Val × Unit) × Unit) :=
  some (((1, is0, ([] : List UInt8), ([] : List (List UInt8)), ([] : List (List UInt8))), ()), ())
def v_is (v0 : Val) : Option ((Bool × Unit) × Unit) :=
  some ((v0.2.1, ()), ())
def slices_IndexFunc_Value_Value_v_is_s2 (x : (List Val) × Unit × Int × Int × Int × Unit) : Option (Ex × ((List Val) × Unit × Int × Int × Int × Unit)) :=
  let s0 := x.1
  let f1 := x.2.1
  let t4 := x.2.2.1
  let t7 := x.2.2.2.1
  let t8 := x.2.2.2.2.1
  cond (decide (t8 < t7))
    (grd (decide (0 ≤ t8) && decide (t8 < s0.length)) (
      (v_is (s0.getD t8.toNat zVal)).bind fun r1 =>
      cond (r1.1.1)
        (some (Ex.ret, (s0, (), t8, t7, t8, ())))
        (some (Ex.normal, (s0, (), t4, t7, IntKind.i64.wrap (t8 + (1 : Int)), ())))))
    (some (Ex.exit 0, (s0, (), t4, t7, t8, ())))
def slices_IndexFunc_Value_Value_v_is (s0 : List Val) (f1 : Unit) : Option ((Int × Unit) × Unit) :=
  (loopO slices_IndexFunc_Value_Value_v_is_s2 (s0, (), 0, (s0.length : Int), 0, ())).bind fun y1 =>
  cond (Ex.same y1.1 (Ex.exit 0))
    (some ((-1, ()), ()))
    (cond (Ex.same y1.1 Ex.ret)
      (some ((y1.2.2.2.1, ()), ()))
      (none))
def slices_ContainsFunc_Value_Value_v_is (s0 : List Val) (f1 : Unit) : Option ((Bool × Unit) × Unit) :=
  (slices_IndexFunc_Value_Value_v_is s0 ()).bind fun r1 =>
  some ((decide (r1.1.1 ≥ (0 : Int)), ()), ())
def v_numberOf (sort0 : Int) (a1 : List UInt8) : Option ((Val × Unit) × Unit) :=
  some (((sort0, false, a1, ([] : List (List UInt8)), ([] : List (List UInt8))), ()), ())
def n_Mul_1 (x0 : Sml) (y1 : Sml) : Option (((List UInt8) × Unit) × Unit) :=
  (n_fraction (IntKind.i64.wrap (x0.1 * y1.1)) (IntKind.i64.wrap (x0.2 * y1.2))).bind fun r1 =>
  some ((r1.1.1, ()), ())
def n_rat_mul (x0 : Rt) (y1 : Rt) : Option ((Rt × Unit) × Unit) :=
  (n_nat_mul x0.2.1 y1.2.1).bind fun r1 =>
  (n_nat_mul x0.2.2 y1.2.2).bind fun r2 =>
  (n_lowest (!(x0.1 == y1.1)) r1.1.1 r2.1.1).bind fun r3 =>
  some (((r3.1.1.1, r3.1.1.2.1, r3.1.1.2.2), ()), ())
def n_Mul_2 (x0 : Rt) (y1 : Rt) : Option (((List UInt8) × Unit) × Unit) :=
  (n_rat_mul (x0.1, x0.2.1, x0.2.2) (y1.1, y1.2.1, y1.2.2)).bind fun r1 =>
  (n_rat_text (r1.1.1.1, r1.1.1.2.1, r1.1.1.2.2)).bind fun r2 =>
  some ((r2.1.1, ()), ())
def n_two_n_Mul_1_n_Mul_2 (a0 : List UInt8) (b1 : List UInt8) (small2 : Unit) (all3 : Unit) : Option (((List UInt8) × Unit) × Unit) :=
  (n_smallOf a0).bind fun r1 =>
  (n_smallOf b1).bind fun r2 =>
  cond (r1.1.2.1)
    (cond (r2.1.2.1)
      ((n_Mul_1 (r1.1.1.1, r1.1.1.2) (r2.1.1.1, r2.1.1.2)).bind fun r3 =>
      some ((r3.1.1, ()), ()))
      ((n_read a0).bind fun r4 =>
      (n_read b1).bind fun r5 =>
      cond (!r4.1.2.1)
        (some ((([] : List UInt8), ()), ()))
        (cond (!r5.1.2.1)
          (some ((([] : List UInt8), ()), ()))
          ((n_Mul_2 (r4.1.1.1, r4.1.1.2.1, r4.1.1.2.2) (r5.1.1.1, r5.1.1.2.1, r5.1.1.2.2)).bind fun r6 =>
          some ((r6.1.1, ()), ())))))
    ((n_read a0).bind fun r7 =>
    (n_read b1).bind fun r8 =>
    cond (!r7.1.2.1)
      (some ((([] : List UInt8), ()), ()))
      (cond (!r8.1.2.1)
        (some ((([] : List UInt8), ()), ()))
        ((n_Mul_2 (r7.1.1.1, r7.1.1.2.1, r7.1.1.2.2) (r8.1.1.1, r8.1.1.2.1, r8.1.1.2.2)).bind fun r9 =>
        some ((r9.1.1, ()), ()))))
def n_Mul (a0 : List UInt8) (b1 : List UInt8) : Option (((List UInt8) × Unit) × Unit) :=
  (n_two_n_Mul_1_n_Mul_2 a0 b1 () ()).bind fun r1 =>
  some ((r1.1.1, ()), ())
def n_rat_quoRem (x0 : Rt) (y1 : Rt) : Option ((Rt × Rt × Unit) × Unit) :=
  (n_nat_quoRem x0.2.1 y1.2.1).bind fun r1 =>
  cond (x0.1)
    (cond (decide ((r1.1.2.1.length : Int) > (0 : Int)))
      ((n_nat_add r1.1.1 ([1] : List Int)).bind fun r2 =>
      (n_nat_sub y1.2.1 r1.1.2.1).bind fun r3 =>
      some (((!(x0.1 == y1.1), r2.1.1, ([1] : List Int)), (false, r3.1.1, ([1] : List Int)), ()), ()))
      (some (((!(x0.1 == y1.1), r1.1.1, ([1] : List Int)), (false, r1.1.2.1, ([1] : List Int)), ()), ())))
    (some (((!(x0.1 == y1.1), r1.1.1, ([1] : List Int)), (false, r1.1.2.1, ([1] : List Int)), ()), ()))
def n_quoRem (a0 : List UInt8) (b1 : List UInt8) : Option (((List UInt8) × (List UInt8) × Unit) × Unit) :=
  (n_IsInt a0).bind fun r1 =>
  cond (!r1.1.1)
    (some ((([] : List UInt8), ([] : List UInt8), ()), ()))
    ((n_IsInt b1).bind fun r2 =>
    cond (!r2.1.1)
      (some ((([] : List UInt8), ([] : List UInt8), ()), ()))
      (cond (b1 == ([48] : List UInt8))
        (some ((([] : List UInt8), ([] : List UInt8), ()), ()))
        ((n_read a0).bind fun r3 =>
        (n_read b1).bind fun r4 =>
        (n_rat_quoRem (r3.1.1.1, r3.1.1.2.1, r3.1.1.2.2) (r4.1.1.1, r4.1.1.2.1, r4.1.1.2.2)).bind fun r5 =>
        (n_rat_text (r5.1.1.1, r5.1.1.2.1, r5.1.1.2.2)).bind fun r6 =>
        (n_rat_text (r5.1.2.1.1, r5.1.2.1.2.1, r5.1.2.1.2.2)).bind fun r7 =>
        some ((r6.1.1, r7.1.1, ()), ()))))
def n_Quo (a0 : List UInt8) (b1 : List UInt8) : Option (((List UInt8) × Unit) × Unit) :=
  (n_quoRem a0 b1).bind fun r1 =>
  some ((r1.1.1, ()), ())
def n_Rem (a0 : List UInt8) (b1 : List UInt8) : Option (((List UInt8) × Unit) × Unit) :=
  (n_quoRem a0 b1).bind fun r1 =>
  some ((r1.1.2.1, ()), ())
def v_at (a0 : Val) (index1 : List UInt8) : Option (((List UInt8) × Unit) × Unit) :=
  (v_place a0 index1).bind fun r1 =>
  cond (r1.1.2.1)
    (grd (decide (0 ≤ r1.1.1) && decide (r1.1.1 < a0.2.2.2.2.length)) (some ((a0.2.2.2.2.getD r1.1.1.toNat ([] : List UInt8), ()), ())))
    (some ((a0.2.2.1, ()), ()))
def v_compute_s7 (x : (List Val) × Val × (List UInt8) × (List Val) × Int × Int × Unit) : Option (Ex × ((List Val) × Val × (List UInt8) × (List Val) × Int × Int × Unit)) :=
  let l1 := x.1
  let t4 := x.2.1
  let sum5 := x.2.2.1
  let t19 := x.2.2.2.1
  let t20 := x.2.2.2.2.1
  let t21 := x.2.2.2.2.2.1
  cond (decide (t21 < t20))
    (grd (decide (0 ≤ t21) && decide (t21 < t19.length)) (
      (n_Add sum5 ((((t19.getD t21.toNat zVal).2).2).1)).bind fun r1 =>
      some (Ex.normal, (l1, t4, r1.1.1, t19, t20, IntKind.i64.wrap (t21 + (1 : Int)), ()))))
    (some (Ex.exit 1, (l1, t4, sum5, t19, t20, t21, ())))
def v_compute (n0 : Nod) (l1 : List Val) : Option ((Val × Unit) × Unit) :=
  cond (n0.1 == (3 : Int))
    ((v_numberOf n0.2.1 n0.2.2.2.1).bind fun r1 =>
    some ((r1.1.1, ()), ()))
    (cond (n0.1 == (14 : Int))
      ((loopO v_compute_s7 (l1, ((0 : Int), false, ([] : List UInt8), ([] : List (List UInt8)), ([] : List (List UInt8))), ([48] : List UInt8), l1, (l1.length : Int), 0, ())).bind fun y2 =>
      cond (Ex.same y2.1 (Ex.exit 1))
        (grd (decide (0 ≤ (0 : Int)) && decide ((0 : Int) < y2.2.1.length)) (
          (v_numberOf ((y2.2.1.getD (0 : Int).toNat zVal).1) y2.2.2.2.1).bind fun r3 =>
          some ((r3.1.1, ()), ())))
        (none))
      (cond (n0.1 == (15 : Int))
        (grd (decide (0 ≤ (0 : Int)) && decide ((0 : Int) < l1.length)) (
          grd (decide (0 ≤ (0 : Int)) && decide ((0 : Int) < l1.length)) (
            grd (decide (0 ≤ (1 : Int)) && decide ((1 : Int) < l1.length)) (
              (n_Mul ((((l1.getD (0 : Int).toNat zVal).2).2).1) ((((l1.getD (1 : Int).toNat zVal).2).2).1)).bind fun r4 =>
              (v_numberOf ((l1.getD (0 : Int).toNat zVal).1) r4.1.1).bind fun r5 =>
              some ((r5.1.1, ()), ())))))
        (cond (n0.1 == (16 : Int))
          (grd (decide (0 ≤ (0 : Int)) && decide ((0 : Int) < l1.length)) (
            (n_Quo ((((l1.getD (0 : Int).toNat zVal).2).2).1) n0.2.2.2.1).bind fun r6 =>
            (v_numberOf 2 r6.1.1).bind fun r7 =>
            some ((r7.1.1, ()), ())))
          (cond (n0.1 == (17 : Int))
            (grd (decide (0 ≤ (0 : Int)) && decide ((0 : Int) < l1.length)) (
              (n_Rem ((((l1.getD (0 : Int).toNat zVal).2).2).1) n0.2.2.2.1).bind fun r8 =>
              (v_numberOf 2 r8.1.1).bind fun r9 =>
              some ((r9.1.1, ()), ())))
            (cond (n0.1 == (18 : Int))
              (grd (decide (0 ≤ (0 : Int)) && decide ((0 : Int) < l1.length)) (
                grd (decide (0 ≤ (1 : Int)) && decide ((1 : Int) < l1.length)) (
                  (v_at (l1.getD (0 : Int).toNat zVal) ((((l1.getD (1 : Int).toNat zVal).2).2).1)).bind fun r10 =>
                  (v_numberOf 2 r10.1.1).bind fun r11 =>
                  some ((r11.1.1, ()), ()))))
              (cond (n0.1 == (19 : Int))
                (grd (decide (0 ≤ (0 : Int)) && decide ((0 : Int) < l1.length)) (
                  grd (decide (0 ≤ (1 : Int)) && decide ((1 : Int) < l1.length)) (
                    grd (decide (0 ≤ (2 : Int)) && decide ((2 : Int) < l1.length)) (
                      (v_store (l1.getD (0 : Int).toNat zVal) ((((l1.getD (1 : Int).toNat zVal).2).2).1) ((((l1.getD (2 : Int).toNat zVal).2).2).1)).bind fun r12 =>
                      some ((r12.1.1, ()), ())))))
                (grd (decide (0 ≤ (0 : Int)) && decide ((0 : Int) < l1.length)) (some (((4, false, (((l1.getD (0 : Int).toNat zVal).2).2).1, ([] : List (List UInt8)), ([] : List (List UInt8))), ()), ())))))))))
def v_operate (n0 : Nod) (l1 : List Val) : Option ((Val × Unit) × Unit) :=
  cond (n0.1 == (1 : Int))
    ((slices_ContainsFunc_Value_Value_v_not l1 ()).bind fun r1 =>
    (v_truth !r1.1.1).bind fun r2 =>
    some ((r2.1.1, ()), ()))
    (cond (n0.1 == (7 : Int))
      ((slices_ContainsFunc_Value_Value_v_not l1 ()).bind fun r3 =>
      (v_truth !r3.1.1).bind fun r4 =>
      some ((r4.1.1, ()), ()))
      (cond (n0.1 == (2 : Int))
        ((slices_ContainsFunc_Value_Value_v_is l1 ()).bind fun r5 =>
        (v_truth r5.1.1).bind fun r6 =>
        some ((r6.1.1, ()), ()))
        (cond (n0.1 == (8 : Int))
          ((slices_ContainsFunc_Value_Value_v_is l1 ()).bind fun r7 =>
          (v_truth r7.1.1).bind fun r8 =>
          some ((r8.1.1, ()), ()))
          (cond (n0.1 == (6 : Int))
            (grd (decide (0 ≤ (0 : Int)) && decide ((0 : Int) < l1.length)) (
              (v_not (l1.getD (0 : Int).toNat zVal)).bind fun r9 =>
              (v_truth r9.1.1).bind fun r10 =>
              some ((r10.1.1, ()), ())))
            (cond (n0.1 == (9 : Int))
              (grd (decide (0 ≤ (0 : Int)) && decide ((0 : Int) < l1.length)) (
                (v_not (l1.getD (0 : Int).toNat zVal)).bind fun r11 =>
                cond (r11.1.1)
                  ((v_truth true).bind fun r12 =>
                  some ((r12.1.1, ()), ()))
                  (grd (decide (0 ≤ (1 : Int)) && decide ((1 : Int) < l1.length)) (
                    (v_is (l1.getD (1 : Int).toNat zVal)).bind fun r13 =>
                    (v_truth r13.1.1).bind fun r14 =>
                    some ((r14.1.1, ()), ())))))
              (cond (n0.1 == (10 : Int))
                (grd (decide (0 ≤ (0 : Int)) && decide ((0 : Int) < l1.length)) (
                  (v_is (l1.getD (0 : Int).toNat zVal)).bind fun r15 =>
                  cond (r15.1.1)
                    (grd (decide (0 ≤ (1 : Int)) && decide ((1 : Int) < l1.length)) (some ((l1.getD (1 : Int).toNat zVal, ()), ())))
                    (grd (decide (0 ≤ (2 : Int)) && decide ((2 : Int) < l1.length)) (some ((l1.getD (2 : Int).toNat zVal, ()), ())))))
                (cond (n0.1 == (11 : Int))
                  (grd (decide (0 ≤ (0 : Int)) && decide ((0 : Int) < l1.length)) (
                    grd (decide (0 ≤ (1 : Int)) && decide ((1 : Int) < l1.length)) (
                      (v_Equal (l1.getD (0 : Int).toNat zVal) (l1.getD (1 : Int).toNat zVal)).bind fun r16 =>
                      (v_truth r16.1.1).bind fun r17 =>
                      some ((r17.1.1, ()), ()))))
                  (cond (n0.1 == (12 : Int))
                    (grd (decide (0 ≤ (0 : Int)) && decide ((0 : Int) < l1.length)) (
                      grd (decide (0 ≤ (1 : Int)) && decide ((1 : Int) < l1.length)) (
                        (n_Cmp ((((l1.getD (0 : Int).toNat zVal).2).2).1) ((((l1.getD (1 : Int).toNat zVal).2).2).1)).bind fun r18 =>
                        (v_truth (decide (r18.1.1 ≤ (0 : Int)))).bind fun r19 =>
                        some ((r19.1.1, ()), ()))))
                    (cond (n0.1 == (13 : Int))
                      (grd (decide (0 ≤ (0 : Int)) && decide ((0 : Int) < l1.length)) (
                        grd (decide (0 ≤ (1 : Int)) && decide ((1 : Int) < l1.length)) (
                          (n_Cmp ((((l1.getD (0 : Int).toNat zVal).2).2).1) ((((l1.getD (1 : Int).toNat zVal).2).2).1)).bind fun r20 =>
                          (v_truth (decide (r20.1.1 < (0 : Int)))).bind fun r21 =>
                          some ((r21.1.1, ()), ()))))
                      ((v_compute n0 l1).bind fun r22 =>
                      some ((r22.1.1, ()), ())))))))))))
def v_evaluator_next_s5 (v_evaluator_nextᵣ : Evl → Option ((Val × Int × Unit) × (Evl × Unit))) (x : Evl × Val × Int × Nod × (List Val) × Int × Int × Unit) : Option (Ex × (Evl × Val × Int × Nod × (List Val) × Int × Int × Unit)) :=
  let e0 := x.1
  let t2 := x.2.1
  let t3 := x.2.2.1
  let n4 := x.2.2.2.1
  let kids5 := x.2.2.2.2.1
  let t26 := x.2.2.2.2.2.1
  let t27 := x.2.2.2.2.2.2.1
  cond (decide (t27 < t26))
    ((v_evaluator_nextᵣ e0).bind fun r1 =>
    cond (r1.1.2.1 != (0 : Int))
      (some (Ex.ret, (r1.2.1, ((0 : Int), false, ([] : List UInt8), ([] : List (List UInt8)), ([] : List (List UInt8))), r1.1.2.1, n4, kids5, t26, t27, ())))
      (grd (decide (kids5.length + ([r1.1.1] : List Val).length ≤ maxN)) (some (Ex.normal, (r1.2.1, t2, t3, n4, kids5 ++ ([r1.1.1] : List Val), t26, IntKind.i64.wrap (t27 + (1 : Int)), ())))))
    (some (Ex.exit 0, (e0, t2, t3, n4, kids5, t26, t27, ())))
def v_evaluator_next_F (v_evaluator_nextᵣ : Evl → Option ((Val × Int × Unit) × (Evl × Unit))) (e0 : Evl) : Option ((Val × Int × Unit) × (Evl × Unit)) :=
  grd (decide (0 ≤ e0.2.1) && decide (e0.2.1 < e0.1.length)) (
    (loopO (v_evaluator_next_s5 v_evaluator_nextᵣ) ((e0.1, IntKind.i64.wrap (e0.2.1 + (1 : Int)), e0.2.2), ((0 : Int), false, ([] : List UInt8), ([] : List (List UInt8)), ([] : List (List UInt8))), 0, e0.1.getD e0.2.1.toNat zNod, ([] : List Val), ((((e0.1.getD e0.2.1.toNat zNod).2).2).2).2, 0, ())).bind fun y1 =>
    cond (Ex.same y1.1 (Ex.exit 0))
      (cond (y1.2.2.2.2.1.1 == (4 : Int))
        ((v_evaluator_variable y1.2.1 y1.2.2.2.2.1).bind fun r2 =>
        some ((r2.1.1, r2.1.2.1, ()), r2.2.1, ()))
        (cond (y1.2.2.2.2.1.1 == (5 : Int))
          ((v_evaluator_call y1.2.1 y1.2.2.2.2.1 y1.2.2.2.2.2.1).bind fun r3 =>
          some ((r3.1.1, r3.1.2.1, ()), r3.2.1, ()))
          ((v_operate y1.2.2.2.2.1 y1.2.2.2.2.2.1).bind fun r4 =>
          some ((r4.1.1, 0, ()), y1.2.1, ()))))
      (cond (Ex.same y1.1 Ex.ret)
        (some ((y1.2.2.1, y1.2.2.2.1, ()), y1.2.1, ()))
        (none)))
def v_evaluator_next : Nat → Evl → Option ((Val × Int × Unit) × (Evl × Unit))
  | 0 => fun _ => none
  | n + 1 => v_evaluator_next_F (v_evaluator_next n)
def v_Eval (t0 : List Nod) (env1 : List Bind) (fns2 : List Interp) : Option ((Val × Int × Unit) × Unit) :=
  (v_bindings env1).bind fun r1 =>
  (v_meanings fns2).bind fun r2 =>
  cond (!r1.1.2.1)
    (some ((((0 : Int), false, ([] : List UInt8), ([] : List (List UInt8)), ([] : List (List UInt8))), 1, ()), ()))
    (cond (!r2.1.2.1)
      (some ((((0 : Int), false, ([] : List UInt8), ([] : List (List UInt8)), ([] : List (List UInt8))), 1, ()), ()))
      ((t_Valid t0).bind fun r3 =>
      cond (!r3.1.1)
        (some ((((0 : Int), false, ([] : List UInt8), ([] : List (List UInt8)), ([] : List (List UInt8))), 1, ()), ()))
        ((v_evaluator_next big (t0, 0, r1.1.1, r2.1.1)).bind fun r4 =>
        cond (r4.1.2.1 != (0 : Int))
          (some ((((0 : Int), false, ([] : List UInt8), ([] : List (List UInt8)), ([] : List (List UInt8))), r4.1.2.1, ()), ()))
          ((v_clone r4.1.1).bind fun r5 =>
          some ((r5.1.1, 0, ()), ())))))
def v_integer (a0 : List UInt8) : Option ((Nod × Unit) × Unit) :=
  some (((3, 2, ([] : List UInt8), a0, (0 : Int)), ()), ())
def v_Term_s13 (x : Val × (List Nod) × Int × Int × Unit) : Option (Ex × (Val × (List Nod) × Int × Int × Unit)) :=
  let v1 := x.1
  let t4 := x.2.1
  let t31 := x.2.2.1
  let t32 := x.2.2.2.1
  cond (decide (t32 < t31))
    (grd (decide (t4.length + ([(19, (0 : Int), ([] : List UInt8), ([] : List UInt8), 3)] : List Nod).length ≤ maxN)) (some (Ex.normal, (v1, t4 ++ ([(19, (0 : Int), ([] : List UInt8), ([] : List UInt8), 3)] : List Nod), t31, IntKind.i64.wrap (t32 + (1 : Int)), ()))))
    (some (Ex.exit 1, (v1, t4, t31, t32, ())))
def v_Term_s18 (x : Val × (List Nod) × (List (List UInt8)) × Int × Int × Unit) : Option (Ex × (Val × (List Nod) × (List (List UInt8)) × Int × Int × Unit)) :=
  let v1 := x.1
  let t4 := x.2.1
  let t47 := x.2.2.1
  let t48 := x.2.2.2.1
  let t49 := x.2.2.2.2.1
  cond (decide (t49 < t48))
    (grd (decide (0 ≤ t49) && decide (t49 < t47.length)) (
      (v_integer (t47.getD t49.toNat ([] : List UInt8))).bind fun r1 =>
      grd (decide (0 ≤ t49) && decide (t49 < v1.2.2.2.2.length)) (
        (v_integer (v1.2.2.2.2.getD t49.toNat ([] : List UInt8))).bind fun r2 =>
        grd (decide (t4.length + ([r1.1.1, r2.1.1] : List Nod).length ≤ maxN)) (some (Ex.normal, (v1, t4 ++ ([r1.1.1, r2.1.1] : List Nod), t47, t48, IntKind.i64.wrap (t49 + (1 : Int)), ()))))))
    (some (Ex.exit 3, (v1, t4, t47, t48, t49, ())))
def v_Term (v0 : Val) : Option (((List Nod) × Int × Unit) × Unit) :=
  (v_Valid v0).bind fun r1 =>
  cond (!r1.1.1)
    (some ((([] : List Nod), 1, ()), ()))
    (cond (v0.1 == (1 : Int))
      (cond (v0.2.1)
        (some ((([(1, (0 : Int), ([] : List UInt8), ([] : List UInt8), (0 : Int))] : List Nod), 0, ()), ()))
        (some ((([(2, (0 : Int), ([] : List UInt8), ([] : List UInt8), (0 : Int))] : List Nod), 0, ()), ())))
      (cond (v0.1 == (2 : Int))
        (some ((([(3, v0.1, ([] : List UInt8), v0.2.2.1, (0 : Int))] : List Nod), 0, ()), ()))
        (cond (v0.1 == (3 : Int))
          (some ((([(3, v0.1, ([] : List UInt8), v0.2.2.1, (0 : Int))] : List Nod), 0, ()), ()))
          ((loopO v_Term_s13 (v0, ([] : List Nod), (v0.2.2.2.1.length : Int), 0, ())).bind fun y2 =>
          cond (Ex.same y2.1 (Ex.exit 1))
            ((v_integer y2.2.1.2.2.1).bind fun r3 =>
            grd (decide (y2.2.2.1.length + ([(20, (0 : Int), ([] : List UInt8), ([] : List UInt8), 1), r3.1.1] : List Nod).length ≤ maxN)) (
              (loopO v_Term_s18 (y2.2.1, y2.2.2.1 ++ ([(20, (0 : Int), ([] : List UInt8), ([] : List UInt8), 1), r3.1.1] : List Nod), y2.2.1.2.2.2.1, (y2.2.1.2.2.2.1.length : Int), 0, ())).bind fun y4 =>
              cond (Ex.same y4.1 (Ex.exit 3))
                ((t_Valid y4.2.2.1).bind fun r5 =>
                cond (!r5.1.1)
                  (some ((([] : List Nod), 6, ()), ()))
                  (some ((y4.2.2.1, 0, ()), ())))
                (none)))
            (none)))))
def n_Num (a0 : List UInt8) : Option (((List UInt8) × Unit) × Unit) :=
  (n_Valid a0).bind fun r1 =>
  cond (!r1.1.1)
    (some ((([] : List UInt8), ()), ()))
    ((strings_Cut a0 ([47] : List UInt8)).bind fun r2 =>
    some ((r2.1.1, ()), ()))
def n_Den (a0 : List UInt8) : Option (((List UInt8) × Unit) × Unit) :=
  (n_Valid a0).bind fun r1 =>
  cond (!r1.1.1)
    (some ((([] : List UInt8), ()), ()))
    ((strings_Cut a0 ([47] : List UInt8)).bind fun r2 =>
    cond (r2.1.2.2.1)
      (some ((r2.1.2.1, ()), ()))
      (some ((([49] : List UInt8), ()), ())))
def t_numeralOf_F (t_numeralOfᵣ : Int → List UInt8 → Option (((List UInt8) × Unit) × Unit)) (sort0 : Int) (a1 : List UInt8) : Option (((List UInt8) × Unit) × Unit) :=
  (n_Sign a1).bind fun r1 =>
  cond (decide (r1.1.1 < (0 : Int)))
    ((n_Neg a1).bind fun r2 =>
    (t_numeralOfᵣ sort0 r2.1.1).bind fun r3 =>
    grd (decide (([40, 45, 32] : List UInt8).length + r3.1.1.length ≤ maxS)) (grd (decide ((([40, 45, 32] : List UInt8) ++ r3.1.1).length + ([41] : List UInt8).length ≤ maxS)) (some (((([40, 45, 32] : List UInt8) ++ r3.1.1) ++ ([41] : List UInt8), ()), ()))))
    (cond (sort0 == (2 : Int))
      (some ((a1, ()), ()))
      ((n_IsInt a1).bind fun r4 =>
      cond (r4.1.1)
        (grd (decide (a1.length + ([46, 48] : List UInt8).length ≤ maxS)) (some ((a1 ++ ([46, 48] : List UInt8), ()), ())))
        ((n_Num a1).bind fun r5 =>
        grd (decide (([40, 47, 32] : List UInt8).length + r5.1.1.length ≤ maxS)) (
          grd (decide ((([40, 47, 32] : List UInt8) ++ r5.1.1).length + ([46, 48, 32] : List UInt8).length ≤ maxS)) (
            (n_Den a1).bind fun r6 =>
            grd (decide (((([40, 47, 32] : List UInt8) ++ r5.1.1) ++ ([46, 48, 32] : List UInt8)).length + r6.1.1.length ≤ maxS)) (grd (decide ((((([40, 47, 32] : List UInt8) ++ r5.1.1) ++ ([46, 48, 32] : List UInt8)) ++ r6.1.1).length + ([46, 48, 41] : List UInt8).length ≤ maxS)) (some (((((([40, 47, 32] : List UInt8) ++ r5.1.1) ++ ([46, 48, 32] : List UInt8)) ++ r6.1.1) ++ ([46, 48, 41] : List UInt8), ()), ()))))))))
def t_numeralOf : Nat → Int → List UInt8 → Option (((List UInt8) × Unit) × Unit)
  | 0 => fun _ _ => none
  | n + 1 => t_numeralOf_F (t_numeralOf n)
def t_symbol (n0 : Nod) : Option (((List UInt8) × Unit) × Unit) :=
  cond (n0.1 == (6 : Int))
    (some ((([110, 111, 116] : List UInt8), ()), ()))
    (cond (n0.1 == (7 : Int))
      (some ((([97, 110, 100] : List UInt8), ()), ()))
      (cond (n0.1 == (8 : Int))
        (some ((([111, 114] : List UInt8), ()), ()))
        (cond (n0.1 == (9 : Int))
          (some ((([61, 62] : List UInt8), ()), ()))
          (cond (n0.1 == (10 : Int))
            (some ((([105, 116, 101] : List UInt8), ()), ()))
            (cond (n0.1 == (11 : Int))
              (some ((([61] : List UInt8), ()), ()))
              (cond (n0.1 == (12 : Int))
                (some ((([60, 61] : List UInt8), ()), ()))
                (cond (n0.1 == (13 : Int))
                  (some ((([60] : List UInt8), ()), ()))
                  (cond (n0.1 == (14 : Int))
                    (some ((([43] : List UInt8), ()), ()))
                    (cond (n0.1 == (15 : Int))
                      (some ((([42] : List UInt8), ()), ()))
                      (cond (n0.1 == (16 : Int))
                        (some ((([100, 105, 118] : List UInt8), ()), ()))
                        (cond (n0.1 == (17 : Int))
                          (some ((([109, 111, 100] : List UInt8), ()), ()))
                          (cond (n0.1 == (18 : Int))
                            (some ((([115, 101, 108, 101, 99, 116] : List UInt8), ()), ()))
                            (cond (n0.1 == (19 : Int))
                              (some ((([115, 116, 111, 114, 101] : List UInt8), ()), ()))
                              (cond (n0.1 == (20 : Int))
                                (some ((([99, 111, 110, 115, 116] : List UInt8), ()), ()))
                                (some ((n0.2.2.1, ()), ()))))))))))))))))
def strings_Builder_WriteByte (b0 : Unit × List Int) (c1 : Int) : Option ((Bool × Unit) × ((Unit × List Int) × Unit)) :=
  (strings_Builder_copyCheck ((), b0.2)).bind fun r1 =>
  grd (decide (r1.2.1.2.length + ([c1] : List Int).length ≤ maxN)) (some ((false, ()), ((), r1.2.1.2 ++ ([c1] : List Int)), ()))
def t_view_write_s4 (t_view_writeᵣ : Option View → (Unit × List Int) → Int → Option ((Unit) × ((Unit × List Int) × Unit))) (x : (Option View) × (Unit × List Int) × Nod × (List Int) × Int × Int × Unit) : Option (Ex × ((Option View) × (Unit × List Int) × Nod × (List Int) × Int × Int × Unit)) :=
  let v0 := x.1
  let b1 := x.2.1
  let n6 := x.2.2.1
  let t25 := x.2.2.2.1
  let t26 := x.2.2.2.2.1
  let t27 := x.2.2.2.2.2.1
  cond (decide (t27 < t26))
    (grd (decide (0 ≤ t27) && decide (t27 < t25.length)) (
      (strings_Builder_WriteByte ((), b1.2) 32).bind fun r1 =>
      (t_view_writeᵣ v0 ((), r1.2.1.2) (t25.getD t27.toNat (0 : Int))).bind fun r2 =>
      some (Ex.normal, (v0, ((), r2.2.1.2), n6, t25, t26, IntKind.i64.wrap (t27 + (1 : Int)), ()))))
    (some (Ex.exit 1, (v0, ((), b1.2), n6, t25, t26, t27, ())))
def t_view_write_F (t_view_writeᵣ : Option View → (Unit × List Int) → Int → Option ((Unit) × ((Unit × List Int) × Unit))) (v0 : Option View) (b1 : Unit × List Int) (i2 : Int) : Option ((Unit) × ((Unit × List Int) × Unit)) :=
  grd (v0.isSome) (
    grd (decide (0 ≤ i2) && decide (i2 < ((v0.getD zView).1).length)) (
      cond (((((v0.getD zView).1).getD i2.toNat zNod).1) == (1 : Int))
        ((strings_Builder_WriteString ((), b1.2) ([116, 114, 117, 101] : List UInt8)).bind fun r1 =>
        some ((), ((), r1.2.1.2), ()))
        (cond (((((v0.getD zView).1).getD i2.toNat zNod).1) == (2 : Int))
          ((strings_Builder_WriteString ((), b1.2) ([102, 97, 108, 115, 101] : List UInt8)).bind fun r2 =>
          some ((), ((), r2.2.1.2), ()))
          (cond (((((v0.getD zView).1).getD i2.toNat zNod).1) == (3 : Int))
            ((t_numeralOf big (((((v0.getD zView).1).getD i2.toNat zNod).2).1) (((((((v0.getD zView).1).getD i2.toNat zNod).2).2).2).1)).bind fun r3 =>
            (strings_Builder_WriteString ((), b1.2) r3.1.1).bind fun r4 =>
            some ((), ((), r4.2.1.2), ()))
            (cond (((((v0.getD zView).1).getD i2.toNat zNod).1) == (4 : Int))
              ((strings_Builder_WriteString ((), b1.2) ((((((v0.getD zView).1).getD i2.toNat zNod).2).2).1)).bind fun r5 =>
              some ((), ((), r5.2.1.2), ()))
              ((t_symbol (((v0.getD zView).1).getD i2.toNat zNod)).bind fun r6 =>
              grd (decide (([40] : List UInt8).length + r6.1.1.length ≤ maxS)) (
                (strings_Builder_WriteString ((), b1.2) (([40] : List UInt8) ++ r6.1.1)).bind fun r7 =>
                (t_view_kids v0 i2).bind fun r8 =>
                (loopO (t_view_write_s4 t_view_writeᵣ) (v0, ((), r7.2.1.2), ((v0.getD zView).1).getD i2.toNat zNod, r8.1.1, (r8.1.1.length : Int), 0, ())).bind fun y9 =>
                cond (Ex.same y9.1 (Ex.exit 1))
                  (cond (!(y9.2.2.2.1.2.2.2.1 == ([] : List UInt8)))
                    (grd (decide (([32] : List UInt8).length + y9.2.2.2.1.2.2.2.1.length ≤ maxS)) (
                      (strings_Builder_WriteString ((), y9.2.2.1.2) (([32] : List UInt8) ++ y9.2.2.2.1.2.2.2.1)).bind fun r10 =>
                      (strings_Builder_WriteByte ((), r10.2.1.2) 41).bind fun r11 =>
                      some ((), ((), r11.2.1.2), ())))
                    ((strings_Builder_WriteByte ((), y9.2.2.1.2) 41).bind fun r12 =>
                    some ((), ((), r12.2.1.2), ())))
                  (none))))))))
def t_view_write : Nat → Option View → (Unit × List Int) → Int → Option ((Unit) × ((Unit × List Int) × Unit))
  | 0 => fun _ _ _ => none
  | n + 1 => t_view_write_F (t_view_write n)
def t_Format (t0 : List Nod) : Option (((List UInt8) × Unit) × Unit) :=
  (t_known t0).bind fun r1 =>
  cond (!r1.1.2.1)
    (some ((([] : List UInt8), ()), ()))
    ((t_view_write big r1.1.1 ((), ([] : List Int)) 0).bind fun r2 =>
    (strings_Builder_String ((), r2.2.1.2)).bind fun r3 =>
    some ((r3.1.1, ()), ()))
def v_Format (v0 : Val) : Option (((List UInt8) × Unit) × Unit) :=
  (v_Term v0).bind fun r1 =>
  cond (r1.1.2.1 != (0 : Int))
    (some ((([] : List UInt8), ()), ()))
    ((t_Format r1.1.1).bind fun r2 =>
    some ((r2.1.1, ()), ()))
def l_awake : Option ((Bool × Unit) × Unit) :=
  (v_Zero 4).bind fun r1 =>
  (v_Store r1.1.1 ([51] : List UInt8) ([55] : List UInt8)).bind fun r2 =>
  (v_Store r2.1.1 ([51] : List UInt8) ([48] : List UInt8)).bind fun r3 =>
  (r_Num1 2 ([45, 55] : List UInt8)).bind fun r4 =>
  (r_Join (16, (0 : Int), ([] : List UInt8), ([50] : List UInt8), (0 : Int)) ([r4.1.1] : List (List Nod))).bind fun r5 =>
  (v_Eval r5.1.1 ([] : List Bind) ([] : List Interp)).bind fun r6 =>
  cond (r1.1.2.1 == (0 : Int))
    (cond (r2.1.2.1 == (0 : Int))
      (cond (r3.1.2.1 == (0 : Int))
        (cond (r6.1.2.1 == (0 : Int))
          (cond ((r2.1.1.2.2.2.1.length : Int) == (1 : Int))
            (grd (decide (0 ≤ (0 : Int)) && decide ((0 : Int) < r2.1.1.2.2.2.2.length)) (
              cond ((r2.1.1.2.2.2.2.getD (0 : Int).toNat ([] : List UInt8)) == ([55] : List UInt8))
                ((v_Equal r3.1.1 r1.1.1).bind fun r7 =>
                cond (r7.1.1)
                  (cond (r6.1.1.2.2.1 == ([45, 52] : List UInt8))
                    ((v_Format (4, false, ([49] : List UInt8), ([([45, 50] : List UInt8)] : List (List UInt8)), ([([53] : List UInt8)] : List (List UInt8)))).bind fun r8 =>
                    some ((r8.1.1 == ([40, 115, 116, 111, 114, 101, 32, 40, 99, 111, 110, 115, 116, 32, 49, 41, 32, 40, 45, 32, 50, 41, 32, 53, 41] : List UInt8), ()), ()))
                    (some ((false, ()), ())))
                  (some ((false, ()), ())))
                (some ((false, ()), ()))))
            (some ((false, ()), ())))
          (some ((false, ()), ())))
        (some ((false, ()), ())))
      (some ((false, ()), ())))
    (some ((false, ()), ()))
def l_ValueZero (s0 : Int) : Option ((Bool × Unit) × Unit) :=
  (v_Zero s0).bind fun r1 =>
  (r_Zero s0).bind fun r2 =>
  (g_Mod s0 4).bind fun r3 =>
  (v_Zero (IntKind.i64.wrap ((1 : Int) + r3.1.1))).bind fun r4 =>
  cond (r1.1.2.1 == r2.1.2.1)
    ((r_EqualValue r1.1.1 r2.1.1).bind fun r5 =>
    cond (r5.1.1)
      (cond (r4.1.2.1 == (0 : Int))
        ((v_Valid r4.1.1).bind fun r6 =>
        cond (r6.1.1)
          ((g_Mod s0 4).bind fun r7 =>
          cond (r4.1.1.1 == (IntKind.i64.wrap ((1 : Int) + r7.1.1)))
            (l_awake.bind fun r8 =>
            some ((r8.1.1, ()), ()))
            (some ((false, ()), ())))
          (some ((false, ()), ())))
        (some ((false, ()), ())))
      (some ((false, ()), ())))
    (some ((false, ()), ()))
end
end Go.AM.Num
end
section
namespace Go.AM
open Go.Proofs Go.RowKit
attribute [local go_sem] Oper.semAt_some

theorem rev_zip {xs : List Int} {k : Nat} (h : k < xs.length) : xs.zipIdx.reverse[k]? = some (xs[xs.length - 1 - k], xs.length - 1 - k) := by
  rw [List.getElem?_reverse (by simpa using h)]
  simp only [List.length_zipIdx, List.getElem?_zipIdx, Nat.zero_add]
  rw [List.getElem?_eq_getElem (by omega)]
  rfl

set_option maxHeartbeats 1000000 in
theorem back_in_194 (F : Fence) (n : Nat) (h : F.fn 194) (hro : F.round = none) (v : Value) (w : World) (hv : v.oneCell' = true) :
    CallsIn F n Tryz.prog 194 #[v] w fun e w' => e = .returned (.func (.func 247) #[] #[.pointer (some ⟨w.heap.size, 0, none⟩)]) ∧ ∃ ty, w' = w.alloc (.cells #[v] ty) := by
  cases v <;> (try (simp [Value.oneCell'] at hv; done))
  all_goals refine callsIn_of_wp Tryz.func194 rfl h ?_ hro
  all_goals simp only [Tryz.ntmps194, List.size_toArray, List.length_cons, List.length_nil, Nat.reduceAdd, Nat.reduceSub, Array.replicate_succ, Array.replicate_zero, List.push_toArray, List.append_toArray, List.nil_append, List.cons_append]
  all_goals gi_wp2
  all_goals go_ret
  all_goals exact ⟨rfl, _, rfl⟩
theorem backCall_194 : BackCall Tryz.prog 194 247 := by
  refine ⟨⟨_, Tryz.func194, by decide, rfl⟩, fun v w hv => (callsIn_wide (n := 0)).1 (CallsIn.mono (back_in_194 Fence.wide 0 trivial rfl v w hv) ?_)⟩
  rintro e w' ⟨rfl, ty, rfl⟩
  exact ⟨ty, rfl, Ext.alloc _ _, by simp, World.alloc_heap_new _ _⟩
set_option maxRecDepth 100000 in
set_option maxHeartbeats 2000000 in
theorem back1_in_247 (F : Fence) (n : Nat) (h8 : F.fn 247) (hro : F.round = none) (hn : 1 ≤ n) (Bs ob : Nat) (ad : Option Addr) (cap : Nat) (xs : List Int) (W : World) (l : Nat) (J : Nat → World → Prop) (hlen : xs.length ≤ 2 ^ 40) (hBs : W.cell? ⟨Bs, ob, none⟩ = some (.slice ad xs.length cap))
    (hcs : xs ≠ [] → ∃ b off, ad = some ⟨b, off, none⟩ ∧ ∀ (k : Nat) x, xs[k]? = some x → W.cell? ⟨b, off + k, none⟩ = some (.int .i64 x))
    (hY : ∀ (k : Nat) x W1, xs.zipIdx.reverse[k]? = some x → J k W1 → YieldAt F (n - 1) Tryz.prog l (encI .i64 x) W1 fun e W' => e = .returned (.bool true) ∧ J (k + 1) W' ∧ KeepsTwo Bs (ad.map (·.block)) W1 W') (h0 : J 0 W) :
    CallsIn F n Tryz.prog 247 #[.func (.yield l) #[] #[], .pointer (some ⟨Bs, ob, none⟩)] W fun e W' => (∃ v, e = .returned v) ∧ J xs.length W' := by
  refine callsIn_of_wp Tryz.func247 rfl h8 ?_ hro
  simp only [Tryz.ntmps247, List.size_toArray, List.length_cons, List.length_nil, Nat.reduceAdd, Nat.reduceSub, Array.replicate_succ, Array.replicate_zero, List.push_toArray, List.append_toArray, List.nil_append, List.cons_append]
  gi_wp2
  gi_loopw [3] (fun i wr => ∃ k : Nat, k ≤ xs.length ∧ i = .int .i64 ((xs.length : Int) - 1 - k) ∧ J k wr ∧ KeepsTwo Bs (ad.map (·.block)) W wr)
    (fun i _ => ((RowKit.intOf i) + 1).toNat)
  case atStart => exact ⟨0, Nat.zero_le _, by simp, h0, ⟨Nat.le_refl _, rfl, fun _ _ => rfl⟩⟩
  case round =>
    obtain ⟨k, hk, rfl, hJk, hnx⟩ := hrel
    by_cases hlt : k < xs.length
    · have hz := rev_zip hlt
      obtain ⟨fn, tmps, assign, body, hy, hR⟩ := hY k _ wr hz hJk
      dsimp only [encI] at hy
      have hix : ((xs.length - 1 - k : Nat) : Int) = (xs.length : Int) - 1 - k := by omega
      rw [hix] at hy
      have hBx : wr.cell? ⟨Bs, ob, none⟩ = some (.slice ad xs.length cap) := by rw [← hBs]; simp only [World.cell?, hnx.2.1]
      obtain ⟨b, off, rfl, hcell⟩ := hcs (by intro e; rw [e] at hlt; simp at hlt)
      have hcx : wr.cell? ⟨b, off + (xs.length - 1 - k), none⟩ = some (.int .i64 (xs[xs.length - 1 - k]'(by omega))) := by
        rw [← hcell (xs.length - 1 - k) _ (List.getElem?_eq_getElem (by omega))]
        simp only [World.cell?, hnx.2.2 b rfl]
      gi_wp2
      refine hR.mono ?_
      rintro e W3 ⟨rfl, hJ3, hk3⟩
      gi_wp2
      go_roundw
      case rel => exact ⟨k + 1, by omega, by simp; omega, hJ3, ⟨Nat.le_trans hnx.1 hk3.1, hk3.2.1.trans hnx.2.1, fun j hj => (hk3.2.2 j hj).trans (hnx.2.2 j hj)⟩⟩
      case measure => simp [RowKit.intOf]; omega
    · obtain rfl : k = xs.length := by omega
      gi_wp2
      go_end0
      exact ⟨⟨_, rfl⟩, hJk⟩
theorem backOK_247 : BackOK Tryz.prog 247 .i64 :=
  ⟨⟨_, Tryz.func247, by decide, rfl⟩, fun Bs ob ad cap xs W l J hlen hBs hcs hY h0 => (callsIn_wide (n := 0)).2 ((callsIn_wide (n := 1)).1 (back1_in_247 Fence.wide 1 trivial rfl (Nat.le_refl _) Bs ob ad cap xs W l J hlen hBs hcs hY h0))⟩

set_option maxHeartbeats 1000000 in
theorem back_in_205 (F : Fence) (n : Nat) (h : F.fn 205) (hro : F.round = none) (v : Value) (w : World) (hv : v.oneCell' = true) :
    CallsIn F n Tryz.prog 205 #[v] w fun e w' => e = .returned (.func (.func 260) #[] #[.pointer (some ⟨w.heap.size, 0, none⟩)]) ∧ ∃ ty, w' = w.alloc (.cells #[v] ty) := by
  cases v <;> (try (simp [Value.oneCell'] at hv; done))
  all_goals refine callsIn_of_wp Tryz.func205 rfl h ?_ hro
  all_goals simp only [Tryz.ntmps205, List.size_toArray, List.length_cons, List.length_nil, Nat.reduceAdd, Nat.reduceSub, Array.replicate_succ, Array.replicate_zero, List.push_toArray, List.append_toArray, List.nil_append, List.cons_append]
  all_goals gi_wp2
  all_goals go_ret
  all_goals exact ⟨rfl, _, rfl⟩
theorem backCall_205 : BackCall Tryz.prog 205 260 := by
  refine ⟨⟨_, Tryz.func205, by decide, rfl⟩, fun v w hv => (callsIn_wide (n := 0)).1 (CallsIn.mono (back_in_205 Fence.wide 0 trivial rfl v w hv) ?_)⟩
  rintro e w' ⟨rfl, ty, rfl⟩
  exact ⟨ty, rfl, Ext.alloc _ _, by simp, World.alloc_heap_new _ _⟩
set_option maxRecDepth 100000 in
set_option maxHeartbeats 2000000 in
theorem back1_in_260 (F : Fence) (n : Nat) (h8 : F.fn 260) (hro : F.round = none) (hn : 1 ≤ n) (Bs ob : Nat) (ad : Option Addr) (cap : Nat) (xs : List Int) (W : World) (l : Nat) (J : Nat → World → Prop) (hlen : xs.length ≤ 2 ^ 40) (hBs : W.cell? ⟨Bs, ob, none⟩ = some (.slice ad xs.length cap))
    (hcs : xs ≠ [] → ∃ b off, ad = some ⟨b, off, none⟩ ∧ ∀ (k : Nat) x, xs[k]? = some x → W.cell? ⟨b, off + k, none⟩ = some (.int .u32 x))
    (hY : ∀ (k : Nat) x W1, xs.zipIdx.reverse[k]? = some x → J k W1 → YieldAt F (n - 1) Tryz.prog l (encI .u32 x) W1 fun e W' => e = .returned (.bool true) ∧ J (k + 1) W' ∧ KeepsTwo Bs (ad.map (·.block)) W1 W') (h0 : J 0 W) :
    CallsIn F n Tryz.prog 260 #[.func (.yield l) #[] #[], .pointer (some ⟨Bs, ob, none⟩)] W fun e W' => (∃ v, e = .returned v) ∧ J xs.length W' := by
  refine callsIn_of_wp Tryz.func260 rfl h8 ?_ hro
  simp only [Tryz.ntmps260, List.size_toArray, List.length_cons, List.length_nil, Nat.reduceAdd, Nat.reduceSub, Array.replicate_succ, Array.replicate_zero, List.push_toArray, List.append_toArray, List.nil_append, List.cons_append]
  gi_wp2
  gi_loopw [3] (fun i wr => ∃ k : Nat, k ≤ xs.length ∧ i = .int .i64 ((xs.length : Int) - 1 - k) ∧ J k wr ∧ KeepsTwo Bs (ad.map (·.block)) W wr)
    (fun i _ => ((RowKit.intOf i) + 1).toNat)
  case atStart => exact ⟨0, Nat.zero_le _, by simp, h0, ⟨Nat.le_refl _, rfl, fun _ _ => rfl⟩⟩
  case round =>
    obtain ⟨k, hk, rfl, hJk, hnx⟩ := hrel
    by_cases hlt : k < xs.length
    · have hz := rev_zip hlt
      obtain ⟨fn, tmps, assign, body, hy, hR⟩ := hY k _ wr hz hJk
      dsimp only [encI] at hy
      have hix : ((xs.length - 1 - k : Nat) : Int) = (xs.length : Int) - 1 - k := by omega
      rw [hix] at hy
      have hBx : wr.cell? ⟨Bs, ob, none⟩ = some (.slice ad xs.length cap) := by rw [← hBs]; simp only [World.cell?, hnx.2.1]
      obtain ⟨b, off, rfl, hcell⟩ := hcs (by intro e; rw [e] at hlt; simp at hlt)
      have hcx : wr.cell? ⟨b, off + (xs.length - 1 - k), none⟩ = some (.int .u32 (xs[xs.length - 1 - k]'(by omega))) := by
        rw [← hcell (xs.length - 1 - k) _ (List.getElem?_eq_getElem (by omega))]
        simp only [World.cell?, hnx.2.2 b rfl]
      gi_wp2
      refine hR.mono ?_
      rintro e W3 ⟨rfl, hJ3, hk3⟩
      gi_wp2
      go_roundw
      case rel => exact ⟨k + 1, by omega, by simp; omega, hJ3, ⟨Nat.le_trans hnx.1 hk3.1, hk3.2.1.trans hnx.2.1, fun j hj => (hk3.2.2 j hj).trans (hnx.2.2 j hj)⟩⟩
      case measure => simp [RowKit.intOf]; omega
    · obtain rfl : k = xs.length := by omega
      gi_wp2
      go_end0
      exact ⟨⟨_, rfl⟩, hJk⟩
theorem backOK_260 : BackOK Tryz.prog 260 .u32 :=
  ⟨⟨_, Tryz.func260, by decide, rfl⟩, fun Bs ob ad cap xs W l J hlen hBs hcs hY h0 => (callsIn_wide (n := 0)).2 ((callsIn_wide (n := 1)).1 (back1_in_260 Fence.wide 1 trivial rfl (Nat.le_refl _) Bs ob ad cap xs W l J hlen hBs hcs hY h0))⟩
end Go.AM
end
