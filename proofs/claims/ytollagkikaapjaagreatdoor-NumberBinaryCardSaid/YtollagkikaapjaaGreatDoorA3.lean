/- A machine of plain values (slices as lists) is sound for the program: what it computes, the program computes. No condition beyond what each statement says. -/
import Derived.Test.YtollagkikaapjaaGreatDoorA2
import Derived.KernelRfl
set_option linter.unusedSimpArgs false
set_option linter.unusedVariables false
section
namespace Go.AM
open Go.RowKit (Below)

theorem ids_inj : ∀ {as : List AV}, nodupB (idsOf as) = true → ∀ {i j : Nat} {a a' : AV} {b : Nat}, as[i]? = some a → as[j]? = some a' → a.row = some b → a'.row = some b → i = j
  | [], _, i, j, a, a', b, h, _, _, _ => by simp at h
  | x :: as, hn, i, j, a, a', b, h1, h2, hb, hb' => by
    have hn0 := nodupB_ok _ hn
    cases i with
    | zero =>
      cases j with
      | zero => rfl
      | succ j =>
        simp at h1; subst h1
        simp only [idsOf, hb] at hn0
        exact absurd (ids_mem (as := as) (by simpa using h2) hb') (List.nodup_cons.1 hn0).1
    | succ i =>
      cases j with
      | zero =>
        simp at h2; subst h2
        simp only [idsOf, hb'] at hn0
        exact absurd (ids_mem (as := as) (by simpa using h1) hb) (List.nodup_cons.1 hn0).1
      | succ j =>
        have : nodupB (idsOf as) = true := by
          simp only [idsOf] at hn
          split at hn
          · simp only [nodupB, Bool.and_eq_true] at hn; exact hn.2
          · exact hn
        exact congrArg (· + 1) (ids_inj this (i := i) (j := j) (by simpa using h1) (by simpa using h2) hb hb')

section
variable {V : Env} {Γ : Base} {st : St} {o : Oper} {ρ : Type} {z : ρ}

theorem disj_ok {a b : List Nat} (h : disj a b = true) : ∀ x ∈ a, x ∉ b := by
  intro x hx
  have := List.all_eq_true.1 h x hx
  simpa using this

/-- The context that a call sees. -/
theorem args_ctx {gb : Nat} {a : Act} {w : World} {β : Nat → Option Place} (hs : SimB Γ st a w β) (hg : Γ.gb = gb) {ps : List PK} {as : List AV} {x : tysP ps} {m : List Nat} (hd : decArgs st.heap ps as = some (x, m)) (hnd : nodupB (idsOf (refsOf ps as)) = true) (hdj : disj (idsOf (refsOf ps as)) m = true)
    {ql : List Place} (h1 : ql.length = (rowsIn ps x).length) (h2 : (refsOf ps as).length = ql.length)
    (h3 : ∀ (i : Nat) a r q, (refsOf ps as)[i]? = some a → (rowsIn ps x)[i]? = some r → ql[i]? = some q → ∃ r', r = some r' ∧ RefOK w (Γ.after w β st.heap) β st.heap a q r') :
    Ctx gb w (withRows (Γ.after w β st.heap) β m) (fun i => ql[i]?) (rowsIn ps x) := by
  have hof : ∀ (i : Nat) (r : Row), (rowsIn ps x)[i]? = some (some r) → ∃ a q b p r0, (refsOf ps as)[i]? = some a ∧ ql[i]? = some q ∧ a.row = some b ∧ b ∈ idsOf (refsOf ps as) ∧ st.heap[b]? = some (some r0) ∧ β b = some p ∧ q.B = p.B ∧ q.backed = p.backed ∧ RefOK w (Γ.after w β st.heap) β st.heap a q r := by
    intro i r hr
    have hi := (List.getElem?_eq_some_iff.1 hr).1
    have e1 : (refsOf ps as)[i]? = some (refsOf ps as)[i] := List.getElem?_eq_getElem (by omega)
    have e2 : ql[i]? = some ql[i] := List.getElem?_eq_getElem (by omega)
    obtain ⟨r', h4, h5⟩ := h3 i _ _ _ e1 hr e2
    cases h4
    obtain ⟨b, p, r0, c1, c2, c3, c4, c5, _⟩ := h5.out
    exact ⟨_, _, b, p, r0, e1, e2, c1, ids_mem e1 c1, c2, c3, c4, c5, h5⟩
  have hlive : ∀ B, live (rowsIn ps x) (fun i => ql[i]?) B → ∃ b p r0, b ∈ idsOf (refsOf ps as) ∧ st.heap[b]? = some (some r0) ∧ β b = some p ∧ p.backed = true ∧ p.B = B := by
    rintro B ⟨i, r, q, e1, e2, e3, rfl⟩
    obtain ⟨a', q', b, p, r0, _, c2, _, c4, c5, c6, c7, c8, _⟩ := hof i r e1
    simp only [e2] at c2; cases c2
    exact ⟨b, p, r0, c4, c5, c6, c8 ▸ e3, c7.symm⟩
  refine ⟨fun i r hr => ?_, fun i j r r' p p' hr hr' hp hp' hk hk' hB => ?_, fun B hB => ?_, fun i hi => List.getElem?_eq_none (by omega)⟩
  · obtain ⟨a', q, b, p, r0, c1, c2, c3, c4, c5, c6, c7, c8, c9⟩ := hof i r hr
    refine ⟨q, c2, fun hk => ?_, ?_⟩
    · obtain ⟨p', hp', hgg, _⟩ := hs.ctx.rows b r0 c5
      rw [c6] at hp'; cases hp'
      rw [c7, ← hg]; exact hgg (c8 ▸ hk)
    · obtain ⟨_, _, _, _, _, _, _, _, hrow, _⟩ := c9.out
      exact rowRel_mono (withRows_base _ _) (fun _ _ h => h) (fun _ => rfl) r (hrow _)
  · obtain ⟨a1, q1, b1, p1, r1, c1, c2, c3, c4, c5, c6, c7, c8, _⟩ := hof i r hr
    obtain ⟨a2, q2, b2, p2, r2, d1, d2, d3, d4, d5, d6, d7, d8, _⟩ := hof j r' hr'
    simp only [c2] at hp; cases hp
    simp only [d2] at hp'; cases hp'
    have := hs.ctx.apart b1 b2 _ _ p1 p2 c5 d5 c6 d6 (c8 ▸ hk) (d8 ▸ hk') (by rw [← c7, ← d7, hB])
    subst this
    exact ids_inj hnd c1 d1 c3 d3
  · rcases hB with hB | ⟨b, hb, p, hp, hk, rfl⟩
    · refine ⟨hB.1, fun hl => hB.2.2 ?_⟩
      obtain ⟨b, p, r0, _, c2, c3, c4, c5⟩ := hlive B hl
      exact ⟨b, r0, p, c2, c3, c4, c5⟩
    · obtain ⟨r, hr⟩ := decArgs_rows ps _ x m hd b hb
      obtain ⟨p', hp', hgg, _⟩ := hs.ctx.rows b r hr
      rw [hp] at hp'; cases hp'
      refine ⟨(hgg hk).2, fun hl => ?_⟩
      obtain ⟨b', p2, r0, c1, c2, c3, c4, c5⟩ := hlive _ hl
      have := hs.ctx.apart b b' _ _ p p2 hr c2 hp c3 hk c4 c5.symm
      subst this
      exact disj_ok hdj _ c1 hb

theorem callE_ok {K : AV → Heap → Option ρ} (hg : Γ.gb = V.gb) (h0 : V.G Γ.w) {c : Call} (h : o.op = .call c) {f : Operand} (hc : c.callee = .value f) {k : FuncId} {caps : List AV} (hf : st.ev f = .fn k caps) {d : Callee} (hd : Good V k d)
    (hq : callE st.heap d (c.args.toList.map st.ev ++ caps) K = some z) : ∃ y H, K y H = some z ∧ Con V.P Γ st o y H := by
  unfold callE at hq
  split at hq
  case h_2 => cases hq
  rename_i x m hx
  simp only at hq
  split at hq
  case isFalse => cases hq
  rename_i hcond
  simp only [Bool.and_eq_true] at hcond
  obtain ⟨hnd, hdj⟩ := hcond
  have hdisj := disj_ok hdj
  -- what the kill leaves
  have hkl := kill_len m st.heap
  have hkk : ∀ b ∈ idsOf (refsOf d.ps (c.args.toList.map st.ev ++ caps)), (killAll m st.heap)[b]? = st.heap[b]? := fun b hb => kill_keep m _ b (hdisj b hb)
  have hkI : ∀ a w β, SimB Γ st a w β → SimB Γ { st with heap := killAll m st.heap } a w β ∧ ∀ B, withRows (Γ.after w β st.heap) β m B → Γ.after w β (killAll m st.heap) B := by
    intro a w β hs
    obtain ⟨k1, k2⟩ := sim_less (H' := killAll m st.heap) hs hkl (fun b r hr => (kill_get m _ b r hr).2)
    refine ⟨k1, fun B hB => k2 B ?_⟩
    rcases hB with hB | ⟨b, hb, p, hp, hk, rfl⟩
    · exact .inl hB
    · obtain ⟨r, hr⟩ := decArgs_rows d.ps _ x m hx b hb
      refine .inr ⟨⟨b, r, p, hr, hp, hk, rfl⟩, ?_⟩
      rintro ⟨b2, r2, p2, e1, e2, e3, e4⟩
      obtain ⟨e5, e6⟩ := kill_get m _ b2 r2 e1
      exact e5 ((hs.ctx.apart b2 b _ _ p2 p e6 hr e2 hp e3 hk e4) ▸ hb)
  obtain ⟨hyou, hfin⟩ : ∃ y ou, d.g x = some (y, ou) ∧ (K (tupV (resList d.rk y st.heap.length (refsOf d.ps (c.args.toList.map st.ev ++ caps)))) ((if m.isEmpty || (d.rk.all RI.scalar && d.ps.all PK.scalarOut) then writeBack (refsOf d.ps (c.args.toList.map st.ev ++ caps)) (rowsOut d.ps ou) st.heap else writeBack (refsOf d.ps (c.args.toList.map st.ev ++ caps)) (rowsOut d.ps ou) (killAll m st.heap)) ++ (rowsNew d.rk y).map some) = some z) := by
    split at hq
    · rename_i hm
      obtain ⟨⟨y, ou⟩, hgx, hK⟩ := bind_some' hq
      exact ⟨y, ou, hgx, by rw [if_pos hm]; exact hK⟩
    · rename_i hm
      obtain ⟨⟨y, ou⟩, hgx, hK⟩ := bind_some' hq
      exact ⟨y, ou, hgx, by rw [if_neg hm]; exact hK⟩
  obtain ⟨ou, hgx, hK⟩ := hfin
  have hok := hd.spec _ _ _ hgx
  refine ⟨_, _, hK, fun a w β hs next Q hn => ?_⟩
  have e1 := ev_ok hs f
  rw [hf] at e1; simp only [RelV] at e1
  obtain ⟨us, e1, e2⟩ := e1
  have hargs : RelL (rdW w) (Γ.after w β st.heap) β (c.args.toList.map st.ev ++ caps) (c.args.toList.map a.eval ++ us) := relL_append (evs_ok hs _) e2
  obtain ⟨ql, g1, g2, g3, g4⟩ := args_ok hs.ctx d.ps _ _ x m hargs hx
  obtain ⟨hG, hgb⟩ := hs.G hg h0
  have hctx := args_ctx hs hg hx hnd hdj g1 g2 g3
  refine wp_call h hc hd.enters e1 (Calls.mono (hok w _ _ _ hG hgb hctx (by
    have := g4 [] _ ⟨fun _ h => h, fun _ _ _ _ h => h⟩
    simpa [← Array.toList_map] using this)) ?_)
  rintro e w' ⟨v, I', rfl, hfr, ⟨nl, vs, rfl, hres, hnew⟩, hrows⟩
  -- a first part of a given row, in the caller's eyes
  have hview : ∀ (β' : Nat → Option Place) (I2 : Nat → Prop), (∀ b q, β b = some q → β' b = some q) → ∀ (j : Nat) p (k : Nat) v, ql[j]? = some p → ViewRel p 0 k v → RelV (rdW w') I2 β' (viewA (refsOf d.ps (c.args.toList.map st.ev ++ caps))[j]? k) v := by
    intro β' I2 hβ j p k v hj hv
    have hi := (List.getElem?_eq_some_iff.1 hj).1
    have e1 : (refsOf d.ps (c.args.toList.map st.ev ++ caps))[j]? = some (refsOf d.ps (c.args.toList.map st.ev ++ caps))[j] := List.getElem?_eq_getElem (by omega)
    have e2 : (rowsIn d.ps x)[j]? = some (rowsIn d.ps x)[j] := List.getElem?_eq_getElem (by omega)
    obtain ⟨r', _, h5⟩ := g3 j _ _ _ e1 e2 hj
    rw [e1]
    unfold viewA
    split
    · rename_i b hb
      simp only [Option.some.injEq] at hb
      obtain ⟨b', c1, c2⟩ := h5.whole (by rw [hb]; rfl)
      rw [hb] at c1; cases c1
      exact rel_pre.2 ⟨p, hβ _ _ c2, hv⟩
    · simp [RelV]
  have hex : ∀ b q, β b = some q → exPlace st.heap.length nl β b = some q := by
    intro b q hq
    rcases Nat.lt_or_ge b st.heap.length with hlt | hge
    · simp only [exPlace, if_pos hlt]; exact hq
    · rw [hs.ctx.dom b hge] at hq; cases hq
  have hpn : ∀ (i : Nat) q, nl[i]? = some q → exPlace st.heap.length nl β (st.heap.length + i) = some q := by
    intro i q hq
    simp only [exPlace, if_neg (by omega : ¬ st.heap.length + i < st.heap.length)]
    rw [show st.heap.length + i - st.heap.length = i from by omega]; exact hq
  by_cases hm : (m.isEmpty || (d.rk.all RI.scalar && d.ps.all PK.scalarOut)) = true
  · rw [if_pos hm] at hn
    simp only [Bool.or_eq_true, List.isEmpty_iff, Bool.and_eq_true] at hm
    obtain ⟨c1, c2⟩ := call_rows hs hs rfl g1 g2 g3 hnd (fun _ _ => rfl) (fun _ _ h => h) hfr hrows hnew (rowsNew_dat _ _) (by
      rcases hm with rfl | hm
      · exact .inl (withRows_nil (rdW w)).imm
      · exact .inr ⟨hm.2, rowsNew_sc _ _ hm.1⟩)
    refine ⟨_, rfl, hn _ w' ⟨_, c1.put o.dst (tupV_ok (resOK_list (hview _ _ hex) d.rk hyou nl vs _ ?_ hres hpn))⟩⟩
    rcases hm with rfl | hm
    · exact .inr (c2 (withRows_nil (rdW w)).imm)
    · exact .inl hm.1
  · rw [if_neg hm] at hn
    obtain ⟨k1, k2⟩ := hkI a w β hs
    obtain ⟨c1, c2⟩ := call_rows (st0 := { st with heap := killAll m st.heap }) hs k1 hkl g1 g2 g3 hnd hkk (fun b r hr => (kill_get m _ b r hr).2) hfr hrows hnew (rowsNew_dat _ _) (.inl k2)
    exact ⟨_, rfl, hn _ w' ⟨_, c1.put o.dst (tupV_ok (resOK_list (hview _ _ hex) d.rk hyou nl vs _ (.inr (c2 k2)) hres hpn))⟩⟩
end
end Go.AM
end
section
namespace Go.AM
open Go.RowKit (Below)

structure TabOK (V : Env) (E : Tab) : Prop where
  ti : ∀ t i, E.ti t = some i → TOk V.P t i
  fn : ∀ k c, E.fn k = some c → Good V k c

section
variable {V : Env} {Γ : Base} {st : St} {o : Oper} {ρ : Type} {z : ρ} {E : Tab}

theorem opQ_ok {K : AV → Option ρ} (hE : TabOK V E) (hg : Γ.gb = V.gb) (h0 : V.G Γ.w) (hq : opQ E st o K = some z) : ∃ y, K y = some z ∧ Con V.P Γ st o y st.heap := by
  unfold opQ at hq
  split at hq
  · rename_i x h; exact ⟨_, hq, con_move (.inl h)⟩
  · rename_i x h; exact ⟨_, hq, con_move (.inr h)⟩
  · rename_i c a b h
    split at hq
    · rename_i t hc
      refine ⟨_, ?_, con_pick h hc⟩
      cases t <;> exact hq
    · cases hq
  · rename_i x h
    split at hq
    · rename_i b i k hx
      exact ⟨_, hq, by rw [← hx]; exact con_nilCheck h (.inl ⟨_, _, _, hx⟩)⟩
    · rename_i e y k hx
      exact ⟨_, hq, by rw [← hx]; exact con_nilCheck h (.inr (.inl ⟨_, _, _, hx⟩))⟩
    · rename_i f cs hx
      exact ⟨_, hq, by rw [← hx]; exact con_nilCheck h (.inr (.inr ⟨_, _, hx⟩))⟩
    · cases hq
  · rename_i op xt x yt h
    split at hq
    · rename_i i hi; exact nilQ_ok h (hE.ti _ _ hi) hq
    · cases hq
  · rename_i op xt x y yt _ h
    split at hq
    · rename_i k a k' b hx hy; exact binQ_int h hx hy hq
    · rename_i a b hx hy; exact binQ_str h hx hy hq
    · split at hq
      · rename_i i hi; exact eqQ_ok h (hE.ti _ _ hi) hq
      · cases hq
  · rename_i op xt x h
    split at hq
    · rename_i b hx; exact ⟨_, hq, (con_unop h).1 _ rfl hx⟩
    · rename_i k n hx; exact ⟨_, hq, (con_unop h).2 _ _ rfl hx⟩
    · cases hq
  · rename_i src dst x h
    split at hq
    · rename_i s d hs hd
      split at hq
      · rename_i k' k k2 n h1 h2 hx; exact ⟨_, hq, con_convInt h (hE.ti _ _ hs) (hE.ti _ _ hd) h1 h2 hx⟩
      · rename_i t h1 h2 hx; exact ⟨_, hq, con_convStr h (hE.ti _ _ hs) (hE.ti _ _ hd) h1 h2 hx⟩
      · rename_i e t h1 h2 hx
        split at hq
        · rename_i hj; exact ⟨_, hq, con_convBytes h (hE.ti _ _ hs) (hE.ti _ _ hd) (hE.ti _ _ hj) h1 h2 rfl hx⟩
        · cases hq
      · rename_i e v h1 h2
        split at hq
        · rename_i hj
          split at hq
          · rename_i l m hl; exact ⟨_, hq, con_convBack h (hE.ti _ _ hs) (hE.ti _ _ hd) (hE.ti _ _ hj) h1 h2 rfl hl⟩
          · cases hq
        · cases hq
      · cases hq
    · cases hq
  · rename_i f first captured h
    split at hq
    · rename_i hf; exact ⟨_, hq, con_makeFunc h hf⟩
    · cases hq
  · rename_i t x lo hi mx h
    split at hq
    · rename_i ht
      split at hq
      · rename_i s hx; exact con_sliceStr h (hE.ti _ _ ht) rfl hx hq
      · cases hq
    · rename_i e ht
      split at hq
      · cases hq
      · rename_i i hi hns
        exact con_slice h (hE.ti _ _ ht) rfl (hE.ti _ _ hi) (fun s hs => hns s hs) hq
      · cases hq
    · cases hq
  · rename_i s x f h
    split at hq
    · rename_i fs hs
      split at hq
      · rename_i off t hf
        split at hq
        · rename_i i hi
          split at hq
          · cases hq
          · rename_i hz
            obtain ⟨c1, c2⟩ := con_fieldAddr (P := V.P) (Γ := Γ) h (hE.ti _ _ hs) rfl hf (hE.ti _ _ hi) hz
            split at hq
            · rename_i b j k hx; exact ⟨_, hq, c1 _ _ _ hx⟩
            · rename_i e y k hx; exact ⟨_, hq, c2 _ _ _ hx⟩
            · cases hq
        · cases hq
      · cases hq
    · cases hq
  · rename_i s x f h
    split at hq
    · rename_i fs hs
      split at hq
      · rename_i off t l hf hx
        split at hq
        · rename_i i hi
          split at hq
          · rename_i y hy; exact ⟨_, hq, con_field h (hE.ti _ _ hs) rfl hf (hE.ti _ _ hi) hx hy⟩
          · cases hq
        · cases hq
      · cases hq
    · cases hq
  · rename_i t x ix h
    split at hq
    · rename_i e k n ht hix
      split at hq
      · rename_i j hj; exact con_indexAddr h (hE.ti _ _ ht) rfl (hE.ti _ _ hj) hix hq
      · cases hq
    · cases hq
  · rename_i t x ix h
    split at hq
    · rename_i s k n ht hx hix
      obtain ⟨hb, hq⟩ := grd_some hq
      simp only [Bool.and_eq_true, decide_eq_true_eq] at hb
      exact ⟨_, hq, con_indexStr h (hE.ti _ _ ht) rfl hx hix hb.1 hb.2⟩
    · cases hq
  · rename_i t x h
    split at hq
    · rename_i i l k ht hat
      obtain ⟨hth, hq⟩ := grd_some hq
      split at hq
      · rename_i v hv; exact ⟨_, hq, con_load h (hE.ti _ _ ht) hat hth hv⟩
      · cases hq
    · cases hq
  · rename_i x i h
    split at hq
    · rename_i l hx
      split at hq
      · rename_i y hy; exact ⟨_, hq, con_extract h hx hy⟩
      · cases hq
    · cases hq
  · rename_i t parts h
    split at hq
    · rename_i fs g ht
      split at hq
      · rename_i hall
        split at hq
        · rename_i l hl; exact ⟨_, hq, con_build h hE.ti (hE.ti _ _ ht) rfl rfl hall hl⟩
        · cases hq
      · cases hq
    · cases hq
  · rename_i t n parts h
    split at hq
    · rename_i e ht
      split at hq
      · rename_i g hj
        split at hq
        · rename_i l hl
          split at hq
          · rename_i hn; exact ⟨_, hq, con_buildSlice h (hE.ti _ _ ht) rfl (hE.ti _ _ hj) rfl hn.1 hn.2 hl⟩
          · cases hq
        · cases hq
      · cases hq
    · cases hq
  · rename_i args argTypes h
    split at hq
    · rename_i x t ha hat
      split at hq
      · rename_i ht
        split at hq
        · rename_i s hx; exact ⟨_, hq, con_lenStr h rfl ha hat (hE.ti _ _ ht) rfl hx⟩
        · cases hq
      · rename_i ht; exact con_len h rfl ha hat (hE.ti _ _ ht) rfl hq
      · cases hq
    · cases hq
  · rename_i args argTypes h
    split at hq
    · rename_i k a r ha
      split at hq
      · rename_i n hn; exact ⟨_, hq, con_max h rfl ha hn⟩
      · cases hq
    · cases hq
  · rename_i args argTypes h
    split at hq
    · rename_i k a r ha
      split at hq
      · rename_i n hn; exact ⟨_, hq, con_min h rfl ha hn⟩
      · cases hq
    · cases hq
  · rename_i f args argTypes h
    split at hq
    · rename_i k caps hf
      split at hq
      · rename_i c hc; exact callQ_ok hg h0 h rfl hf (hE.fn _ _ hc) hq
      · cases hq
    · cases hq
  · cases hq

theorem opE_ok {K : AV → Heap → Option ρ} (hE : TabOK V E) (hg : Γ.gb = V.gb) (h0 : V.G Γ.w) (hq : opE E st o K = some z) : ∃ y H, K y H = some z ∧ Con V.P Γ st o y H := by
  unfold opE at hq
  split at hq
  · rename_i t h
    split at hq
    · rename_i g ht; exact ⟨_, _, hq, con_alloc h (hE.ti _ _ ht) rfl⟩
    · cases hq
  · rename_i t x h
    split at hq
    · rename_i i ht
      simp only at hq
      split at hq
      · rename_i hp
        split at hq
        · exact ⟨_, _, hq, con_box h hp⟩
        · cases hq
      · cases hq
    · cases hq
  · rename_i t a x h
    split at hq
    · rename_i i ht
      simp only at hq
      split at hq
      · rename_i hp
        split at hq
        · rename_i hsz
          split at hq
          · rename_i b j k ha
            split at hq
            · rename_i l hb
              split at hq
              · rename_i hjk; exact ⟨_, _, hq, con_store h (hE.ti _ _ ht) hp hsz ha hb (.inl ⟨l, rfl, hjk.1, hjk.2, rfl⟩)⟩
              · cases hq
            · rename_i e l hb
              split at hq
              · rename_i hk
                split at hq
                · rename_i y m hy
                  obtain ⟨hj, hq⟩ := grd_some hq
                  simp only [decide_eq_true_eq] at hj
                  rw [encC_len] at hk
                  exact ⟨_, _, hq, con_store h (hE.ti _ _ ht) hp hsz ha hb (.inr ⟨e, l, y, m, rfl, hk, hj, hy, rfl⟩)⟩
                · cases hq
              · cases hq
            · cases hq
          · cases hq
        · cases hq
      · cases hq
    · cases hq
  · rename_i t l c h
    split at hq
    · rename_i e ht
      split at hq
      · rename_i g bytes hj
        split at hq
        · rename_i a b hl hc
          split at hq
          · rename_i hb
            obtain ⟨hh, hq⟩ := grd_some hq
            simp only [Bool.and_eq_true, decide_eq_true_eq] at hh
            exact ⟨_, _, hq, con_makeSlice h (hE.ti _ _ ht) rfl (hE.ti _ _ hj) rfl hl hc hh.1.1 hh.1.2 hh.2 hb⟩
          · cases hq
        · cases hq
      · cases hq
    · cases hq
  · rename_i args argTypes h
    split at hq
    · rename_i s x ts tx ha hat
      split at hq
      · rename_i e e' hts htx
        split at hq
        · rename_i g bytes hj
          split at hq
          · rename_i hb
            split at hq
            · rename_i l' m hl; exact con_append h rfl ha hat (hE.ti _ _ hts) rfl (hE.ti _ _ htx) rfl (hE.ti _ _ hj) rfl hb hl hq
            · cases hq
          · cases hq
        · cases hq
      · cases hq
    · cases hq
  · rename_i f args argTypes h
    split at hq
    · rename_i k caps hf
      split at hq
      · rename_i c hc; exact callE_ok hg h0 h rfl hf (hE.fn _ _ hc) hq
      · cases hq
    · cases hq
  · cases hq

theorem opX_ok {dr : Bool} {K : AV → Heap → Option ρ} (hE : TabOK V E) (hg : Γ.gb = V.gb) (h0 : V.G Γ.w) (hq : opX E dr st o K = some z) : ∃ y H, K y H = some z ∧ Con V.P Γ st o y H := by
  unfold opX at hq
  split at hq
  · exact opE_ok hE hg h0 hq
  · obtain ⟨y, h1, h2⟩ := opQ_ok hE hg h0 hq
    exact ⟨y, _, h1, h2⟩
end
end Go.AM
end
section
namespace Go.AM
open Go.RowKit (Below)

section
variable {ρ : Type} {E : Tab} {st st' : St} {o : Oper}

theorem grd_nat {α : Type} {b : Bool} {x : Option α} {f : α → Option ρ} : (grd b x).bind f = grd b (x.bind f) := by cases b <;> rfl

theorem binQ_nat (op : BinOp) (x y : AV) (K : AV → Option ρ) : binQ op x y K = (binQ op x y some).bind K := by
  cases x <;> cases y <;> simp only [binQ] <;> (try rfl)
  · split
    · cases op <;> simp [grd_nat]
    · rfl
  · cases op <;> simp [grd_nat]

theorem eqQ_nat (op : BinOp) (d : TD) (x y : AV) (K : AV → Option ρ) : eqQ op d x y K = (eqQ op d x y some).bind K := by
  unfold eqQ
  cases eqR d x y with
  | none => rfl
  | some r => cases op <;> rfl

theorem nilQ_nat (op : BinOp) (d : TD) (x : AV) (K : AV → Option ρ) : nilQ op d x K = (nilQ op d x some).bind K := by
  unfold nilQ
  split <;> rfl

theorem bnd_nat (n : Nat) (lo hi : Option AV) (f : Option Int → Option Int → AV) (K : AV → Option ρ) : bnd n lo hi (fun a b => K (f a b)) = (bnd n lo hi (fun a b => some (f a b))).bind K := by
  unfold bnd
  split <;> simp [grd_nat]

theorem sliceQ_nat (H : Heap) (s : Nat) (x : AV) (lo hi : Option AV) (K : AV → Option ρ) : sliceQ H s x lo hi K = (sliceQ H s x lo hi some).bind K := by
  have hm : ∀ (f g h i : AV) (n : Nat), True := fun _ _ _ _ _ => trivial
  cases x <;> simp only [sliceQ] <;> (try rfl)
  · exact bnd_nat _ _ _ _ K
  · exact bnd_nat _ _ _ _ K
  · split
    · exact bnd_nat _ _ _ _ K
    · rfl
  all_goals
    split
    · rename_i n hn
      unfold bnd
      split <;> simp [grd_nat]
    · rfl

theorem lenQ_nat (H : Heap) (x : AV) (K : AV → Option ρ) : lenQ H x K = (lenQ H x some).bind K := by
  cases x <;> simp only [lenQ] <;> (try rfl)
  split <;> rfl

theorem indexAddrQ_nat (H : Heap) (s : Nat) (x : AV) (i : Int) (K : AV → Option ρ) : indexAddrQ H s x i K = (indexAddrQ H s x i some).bind K := by
  cases x <;> simp only [indexAddrQ] <;> (try rfl) <;> split <;> simp [grd_nat]

theorem callQ_nat (H : Heap) (c : Callee) (as : List AV) (K : AV → Option ρ) : callQ H c as K = (callQ H c as some).bind K := by
  unfold callQ
  split
  · split
    · cases c.g _ <;> rfl
    · rfl
  · rfl

theorem opQ_nat (K : AV → Option ρ) : opQ E st o K = (opQ E st o some).bind K := by
  unfold opQ
  split
  · rfl
  · rfl
  · split
    · rename_i t _; cases t <;> rfl
    · rfl
  · split <;> rfl
  · split
    · exact nilQ_nat _ _ _ K
    · rfl
  · split
    · exact binQ_nat _ _ _ K
    · exact binQ_nat _ _ _ K
    · split
      · exact eqQ_nat _ _ _ _ K
      · rfl
  · split <;> rfl
  · split
    · split
      · rfl
      · rfl
      · split <;> rfl
      · split
        · split <;> rfl
        · rfl
      · rfl
    · rfl
  · split <;> rfl
  · split
    · split
      · exact sliceQ_nat _ _ _ _ _ K
      · rfl
    · split
      · rfl
      · exact sliceQ_nat _ _ _ _ _ K
      · rfl
    · rfl
  · split
    · split
      · split
        · split
          · rfl
          · split <;> rfl
        · rfl
      · rfl
    · rfl
  · split
    · split
      · split
        · split <;> rfl
        · rfl
      · rfl
    · rfl
  · split
    · split
      · exact indexAddrQ_nat _ _ _ _ K
      · rfl
    · rfl
  · split
    · rw [grd_nat]; rfl
    · rfl
  · split
    · rw [grd_nat]; split <;> rfl
    · rfl
  · split
    · split <;> rfl
    · rfl
  · split
    · split
      · split <;> rfl
      · rfl
    · rfl
  · split
    · split
      · split
        · split <;> rfl
        · rfl
      · rfl
    · rfl
  · split
    · split
      · split <;> rfl
      · exact lenQ_nat _ _ K
      · rfl
    · rfl
  · split
    · split <;> rfl
    · rfl
  · split
    · split <;> rfl
    · rfl
  · split
    · split
      · exact callQ_nat _ _ _ K
      · rfl
    · rfl
  · rfl

theorem appendE_nat (H : Heap) (e : GT) (s : AV) (l' : List e.ty) (K : AV → Heap → Option ρ) : appendE H e s l' K = (appendE H e s l' fun y H => some (y, H)).bind fun r => K r.1 r.2 := by
  cases s <;> simp only [appendE] <;> (try rfl)
  · rw [grd_nat]; rfl
  · rename_i e' f l
    cases f
    · rfl
    · simp only
      split
      · cases decide (0 < l'.length)
        · rfl
        · simp only [cond_true]; rw [grd_nat]; rfl
      · rfl
  all_goals
    split
    · split
      · rw [grd_nat]; rfl
      · rfl
    · rfl

theorem callE_nat (H : Heap) (c : Callee) (as : List AV) (K : AV → Heap → Option ρ) : callE H c as K = (callE H c as fun y H => some (y, H)).bind fun r => K r.1 r.2 := by
  unfold callE
  split
  · simp only
    split
    · split <;> cases c.g _ <;> rfl
    · rfl
  · rfl

theorem opE_nat (K : AV → Heap → Option ρ) : opE E st o K = (opE E st o fun y H => some (y, H)).bind fun r => K r.1 r.2 := by
  unfold opE
  split
  · split <;> rfl
  · split
    · simp only
      split
      · split <;> rfl
      · rfl
    · rfl
  · split
    · simp only
      split
      · split
        · split
          · split
            · split <;> rfl
            · split
              · split
                · rw [grd_nat]; rfl
                · rfl
              · rfl
            · rfl
          · rfl
        · rfl
      · rfl
    · rfl
  · split
    · split
      · split
        · split
          · rw [grd_nat]; rfl
          · rfl
        · rfl
      · rfl
    · rfl
  · split
    · split
      · split
        · split
          · split
            · exact appendE_nat _ _ _ _ K
            · rfl
          · rfl
        · rfl
      · rfl
    · rfl
  · split
    · split
      · exact callE_nat _ _ _ K
      · rfl
    · rfl
  · rfl

theorem opX_nat {dr : Bool} (K : AV → Heap → Option ρ) : opX E dr st o K = (opX E dr st o fun y H => some (y, H)).bind fun r => K r.1 r.2 := by
  unfold opX
  split
  · exact opE_nat K
  · rw [opQ_nat (fun v => K v st.heap), opQ_nat (fun v => some (v, st.heap))]
    cases opQ E st o some <;> rfl

/-! ### Operands -/
theorem evs_congr {l : List Operand} (h : ∀ x ∈ l, st.ev x = st'.ev x) : l.map st.ev = l.map st'.ev := List.map_congr_left h
theorem evp_congr {l : List (Nat × Operand)} (h : ∀ x ∈ l.map (·.2), st.ev x = st'.ev x) : (l.map fun p => (p.1, st.ev p.2)) = l.map fun p => (p.1, st'.ev p.2) :=
  List.map_congr_left fun p hp => by rw [h p.2 (List.mem_map.2 ⟨p, hp, rfl⟩)]
theorem evo_congr {l : Option Operand} (h : ∀ x ∈ l.toList, st.ev x = st'.ev x) : l.map st.ev = l.map st'.ev := by
  cases l with
  | none => rfl
  | some x => simp [h x (by simp)]

theorem opQ_congr (K : AV → Option ρ) (h : ∀ x ∈ o.op.operands.toList, st.ev x = st'.ev x) (hh : st.heap = st'.heap ∨ heapFree E o.op = true) : opQ E st o K = opQ E st' o K := by
  obtain ⟨dst, op, type, pos, after, guard⟩ := o
  simp only at h hh
  have hp : ∀ {b : Bool}, (st.heap = st'.heap ∨ b = true) → b = false → st.heap = st'.heap := fun h e => h.resolve_right (by rw [e]; simp)
  cases op <;> (try rfl)
  case call c =>
    obtain ⟨callee, args, argTypes⟩ := c
    cases callee with
    | value f =>
      have hH := hp hh rfl
      have h1 : st.ev f = st'.ev f := h f (by simp [Op.operands, Call.operands])
      have h2 := evs_congr (st := st) (st' := st') (l := args.toList) fun x hx => h x (by simp [Op.operands, Call.operands] at hx ⊢; exact .inr hx)
      simp only [opQ, h1, h2, hH]
    | invoke r m => rfl
    | builtin b =>
      have h2 := evs_congr (st := st) (st' := st') (l := args.toList) fun x hx => h x (by simpa [Op.operands, Call.operands] using hx)
      cases b <;> (try rfl)
      case len =>
        have hH := hp hh rfl
        have h3 : ∀ x, args.toList = [x] → st.ev x = st'.ev x := fun x e => by rw [e] at h2; simpa using h2
        simp only [opQ, hH]
        split
        · rename_i x t e1 e2
          rw [h3 x e1]
        · rfl
      case max => simp only [opQ, h2]
      case min => simp only [opQ, h2]
  case build t ps =>
    have h2 := evp_congr (st := st) (st' := st') (l := ps.toList) fun x hx => h x (by simpa [Op.operands] using hx)
    simp only [opQ, h2]
  case buildSlice t n ps =>
    have h2 := evp_congr (st := st) (st' := st') (l := ps.toList) fun x hx => h x (by simpa [Op.operands] using hx)
    simp only [opQ, h2, hp hh rfl]
  case makeFunc x first captured =>
    cases x <;> (try rfl)
    have h2 := evs_congr (st := st) (st' := st') (l := captured.toList) fun x hx => h x (by simp [Op.operands] at hx ⊢; exact .inr hx)
    simp only [opQ, h2]
  case slice t x lo hi mx =>
    have h1 : st.ev x = st'.ev x := h x (by simp [Op.operands])
    have h2 := evo_congr (st := st) (st' := st') (l := lo) fun y hy => h y (by simp [Op.operands] at hy ⊢; exact .inr (.inl hy))
    have h3 := evo_congr (st := st) (st' := st') (l := hi) fun y hy => h y (by simp [Op.operands] at hy ⊢; exact .inr (.inr (.inl hy)))
    rcases hh with hh | hh
    · simp only [opQ, h1, h2, h3, hh]
    · simp only [heapFree] at hh
      simp only [opQ, h1, h2, h3]
      cases ht : E.ti t with
      | none => rfl
      | some i =>
        rw [ht] at hh
        obtain ⟨d, sz, by', gt⟩ := i
        cases d <;> simp only [] at hh <;> first | rfl | cases hh
        cases mx <;> rfl
  case convert src dst x =>
    have h1 : st.ev x = st'.ev x := h x (by simp [Op.operands])
    rcases hh with hh | hh
    · simp only [opQ, h1, hh]
    · simp only [heapFree] at hh
      simp only [opQ, h1]
      cases hs : E.ti src with
      | none => rfl
      | some s =>
        rw [hs] at hh
        obtain ⟨d, sz, by', gt⟩ := s
        cases E.ti dst with
        | none => rfl
        | some d2 =>
          obtain ⟨d2, sz2, by2, gt2⟩ := d2
          have hns : ∀ e, d ≠ .slice e := by rintro e rfl; cases hh
          cases d <;> cases d2 <;> (try rfl) <;> cases st'.ev x <;> (try rfl) <;> exact absurd rfl (hns _)
  case move x => simp only [opQ, h x (by simp [Op.operands])]
  case assign x => simp only [opQ, h x (by simp [Op.operands])]
  case nilCheck x => simp only [opQ, h x (by simp [Op.operands])]
  case extract x n => simp only [opQ, h x (by simp [Op.operands])]
  case unOp u t x => simp only [opQ, h x (by simp [Op.operands])]
  case fieldAddr t x n => simp only [opQ, h x (by simp [Op.operands])]
  case field t x n => simp only [opQ, h x (by simp [Op.operands])]
  case load t x => simp only [opQ, h x (by simp [Op.operands]), hp hh rfl]
  case pick c x y => simp only [opQ, h c (by simp [Op.operands]), h x (by simp [Op.operands]), h y (by simp [Op.operands])]
  case binOp b t x y t' =>
    have h1 := h x (by simp [Op.operands])
    have h2 := h y (by simp [Op.operands])
    cases y with
    | const v => cases v <;> simp only [opQ, h1, h2]
    | tmp _ => simp only [opQ, h1, h2]
    | func _ => simp only [opQ, h1, h2]
    | global _ => simp only [opQ, h1, h2]
  case indexAddr t x y => simp only [opQ, h x (by simp [Op.operands]), h y (by simp [Op.operands]), hp hh rfl]
  case index t x y => simp only [opQ, h x (by simp [Op.operands]), h y (by simp [Op.operands])]

theorem opE_congr (K : AV → Heap → Option ρ) (h : ∀ x ∈ o.op.operands.toList, st.ev x = st'.ev x) (hh : st.heap = st'.heap) : opE E st o K = opE E st' o K := by
  obtain ⟨dst, op, type, pos, after, guard⟩ := o
  simp only at h hh
  cases op <;> (try rfl)
  case call c =>
    obtain ⟨callee, args, argTypes⟩ := c
    cases callee with
    | value f =>
      have h1 : st.ev f = st'.ev f := h f (by simp [Op.operands, Call.operands])
      have h2 := evs_congr (st := st) (st' := st') (l := args.toList) fun x hx => h x (by simp [Op.operands, Call.operands] at hx ⊢; exact .inr hx)
      simp only [opE, h1, h2, hh]
    | invoke r m => rfl
    | builtin b =>
      cases b <;> (try rfl)
      case append =>
        simp only [opE, hh]
        split
        · rename_i s x ts tx ha hat
          have h1 : st.ev s = st'.ev s := h s (by simp [Op.operands, Call.operands, Array.mem_def, ha])
          have h2 : st.ev x = st'.ev x := h x (by simp [Op.operands, Call.operands, Array.mem_def, ha])
          rw [h1, h2]
        · rfl
  case alloc t => simp only [opE, hh]
  case box t x => simp only [opE, h x (by simp [Op.operands]), hh]
  case store t x y => simp only [opE, h x (by simp [Op.operands]), h y (by simp [Op.operands]), hh]
  case makeSlice t x y => simp only [opE, h x (by simp [Op.operands]), h y (by simp [Op.operands]), hh]

theorem opX_congr {dr : Bool} (K : AV → Heap → Option ρ) (h : ∀ x ∈ o.op.operands.toList, st.ev x = st'.ev x) (hh : st.heap = st'.heap) : opX E dr st o K = opX E dr st' o K := by
  unfold opX
  split
  · exact opE_congr K h hh
  · rw [hh]; exact opQ_congr _ h (.inl hh)
end
end Go.AM
end
section
namespace Go.AM
open Go.RowKit (Below)

section
variable {V : Env} {Γ : Base} {E : Tab} {ops : Array Oper} {dr : Bool}

/-- One operation of a region: its value and the rows after it. -/
def stepV (E : Tab) (dr : Bool) (ops : Array Oper) (o : Oper) (st : St) : Option (AV × Heap) :=
  match o.guard with
  | none => opX E dr st o fun v H => some (v, H)
  | some (j, want) => match (ops[j]?).bind (·.dst) with
    | none => none
    | some d => match st.tmps[d]? with
      | some (.bool g) => if g = want then opX E dr st o fun v H => some (v, H) else some (.undef, st.heap)
      | some .undef => some (.undef, st.heap)
      | _ => none

def St.give (st : St) (d : Option Tmp) (r : AV × Heap) : St := { st with heap := r.2 }.put d r.1
def stepG (E : Tab) (dr : Bool) (ops : Array Oper) (o : Oper) (st : St) : Option St := (stepV E dr ops o st).map (st.give o.dst)

theorem put_same {st : St} {d : Nat} {x : AV} (h : st.tmps[d]? = some x) : st.put (some d) x = st := by
  obtain ⟨tmps, heap, orig⟩ := st
  simp only [St.put, St.mk.injEq, and_true]
  simp only at h
  apply List.ext_getElem?
  intro i
  rw [List.getElem?_set]
  split
  · rename_i e; subst e; rw [h]; simp [(List.getElem?_eq_some_iff.1 h).1]
  · rfl

theorem opX_some {ρ : Type} {st : St} {o : Oper} {K : AV → Heap → Option ρ} {z : ρ} (h : opX E dr st o K = some z) : ∃ v H, (opX E dr st o fun v H => some (v, H)) = some (v, H) ∧ K v H = some z := by
  rw [opX_nat] at h
  obtain ⟨⟨v, H⟩, h1, h2⟩ := bind_some' h
  exact ⟨v, H, h1, h2⟩

theorem stepOps_cons {ρ : Type} {o : Oper} {r : List Oper} {st : St} {K : St → Option ρ} {z : ρ} (h : stepOps E dr ops (o :: r) st K = some z) : ∃ st', stepG E dr ops o st = some st' ∧ stepOps E dr ops r st' K = some z := by
  simp only [stepOps] at h
  unfold stepG stepV
  split at h
  · rename_i hg
    obtain ⟨v, H, h1, h2⟩ := opX_some h
    rw [hg]
    exact ⟨_, by simp only [h1]; rfl, h2⟩
  · rename_i j want hg
    rw [hg]
    simp only
    split at h
    · cases h
    · rename_i d hd
      rw [hd]
      simp only
      split at h
      · rename_i g ht
        rw [ht]
        have e := put_same ht
        cases g <;> cases want <;> simp only [cond] at h <;> rw [e] at h
        · obtain ⟨v, H, h1, h2⟩ := opX_some h
          exact ⟨_, by simp only [h1]; rfl, h2⟩
        · exact ⟨_, by simp; rfl, h⟩
        · exact ⟨_, by simp; rfl, h⟩
        · obtain ⟨v, H, h1, h2⟩ := opX_some h
          exact ⟨_, by simp only [h1]; rfl, h2⟩
      · rename_i ht
        rw [ht]
        exact ⟨_, rfl, h⟩
      · cases h

theorem sim_give_skip {st : St} {a : Act} {w : World} (hs : Sim Γ st a w) (d : Option Tmp) : Sim Γ (st.give d (.undef, st.heap)) (a.put d undef) w := by
  obtain ⟨β, hs⟩ := hs
  exact ⟨β, SimB.put (st := { st with heap := st.heap }) hs d (by simp [RelV])⟩

theorem wanted_bool {o : Oper} {tmps : Array Value} {j d : Nat} {want g : Bool} (hgd : o.guard = some (j, want)) (hd : ((ops[j]?).bind (·.dst)) = some d) (hv : tmps[d]? = some (.bool g)) : Region.wanted o (yielded ops tmps) = (some g == some want) := by
  unfold Region.wanted yielded
  simp [hgd, hd, hv]
theorem wanted_undef {o : Oper} {tmps : Array Value} {j d : Nat} {want : Bool} (hgd : o.guard = some (j, want)) (hd : ((ops[j]?).bind (·.dst)) = some d) (hv : tmps[d]? = some undef) : Region.wanted o (yielded ops tmps) = false := by
  unfold Region.wanted yielded
  simp [hgd, hd, hv, undef]

theorem stepG_ok (hE : TabOK V E) (hg : Γ.gb = V.gb) (h0 : V.G Γ.w) {o : Oper} {i : Nat} (hi : ops[i]? = some o) {st st' : St} (h : stepG E dr ops o st = some st') {a : Act} {w : World} (hs : Sim Γ st a w) {K : Act → World → Prop} {Q : Exit → Act → World → Prop} (hk : ∀ a' w', Sim Γ st' a' w' → K a' w') : wpOp V.P ops Q i K a w := by
  have run : ∀ {r : AV × Heap}, (opX E dr st o fun v H => some (v, H)) = some r → st' = st.give o.dst r → o.wp V.P a w K Q := by
    intro r hr e
    obtain ⟨y, H, h1, h2⟩ := opX_ok hE hg h0 hr
    cases h1
    obtain ⟨β, hb⟩ := hs
    exact h2 a w β hb K Q fun v w' hv => hk _ _ (by rw [e]; exact hv)
  unfold stepG at h
  cases hv : stepV E dr ops o st with
  | none => rw [hv] at h; cases h
  | some r =>
    rw [hv] at h
    simp only [Option.map_some, Option.some.injEq] at h
    unfold stepV at hv
    unfold wpOp
    rw [hi]
    simp only
    split at hv
    · rename_i hgd
      have : Region.wanted o (yielded ops a.tmps) = true := by unfold Region.wanted; rw [hgd]
      rw [this, if_pos rfl]
      exact .inl (run hv h.symm)
    · rename_i j want hgd
      split at hv
      · cases hv
      · rename_i d hd
        split at hv
        · rename_i g ht
          obtain ⟨β, hb⟩ := hs
          obtain ⟨v, hv1, hv2⟩ := hb.tmps d _ ht
          simp only [RelV] at hv2; subst hv2
          rw [wanted_bool hgd hd hv1]
          split at hv
          · rename_i e; subst e
            rw [if_pos (by simp)]
            exact .inl (run hv h.symm)
          · rename_i e
            rw [if_neg (by simpa using e)]
            cases hv
            exact hk _ _ (by rw [← h]; exact sim_give_skip ⟨β, hb⟩ _)
        · rename_i ht
          obtain ⟨β, hb⟩ := hs
          obtain ⟨v, hv1, hv2⟩ := hb.tmps d _ ht
          simp only [RelV] at hv2; subst hv2
          rw [wanted_undef hgd hd hv1, if_neg (by simp)]
          cases hv
          exact hk _ _ (by rw [← h]; exact sim_give_skip ⟨β, hb⟩ _)
        · cases hv

/-- A region in the order of its text. -/
theorem ops_ok (hE : TabOK V E) (hg : Γ.gb = V.gb) (h0 : V.G Γ.w) {ρ : Type} {z : ρ} {K : St → Option ρ} {Q : Exit → Act → World → Prop} (hQ : ∀ st a w, Sim Γ st a w → K st = some z → Q .normal a w) :
    ∀ (n k : Nat), k + n = ops.size → ∀ st a w, stepOps E dr ops (ops.toList.drop k) st K = some z → Sim Γ st a w → wpOps V.P ops Q (List.range' k n) a w := by
  intro n
  induction n with
  | zero =>
    intro k hk st a w h hs
    rw [List.drop_eq_nil_of_le (by simp; omega)] at h
    exact hQ st a w hs h
  | succ n ih =>
    intro k hk st a w h hs
    have hlt : k < ops.toList.length := by simp; omega
    rw [List.drop_eq_getElem_cons hlt] at h
    obtain ⟨st', h1, h2⟩ := stepOps_cons h
    rw [List.range'_succ, wpOps_cons]
    exact stepG_ok hE hg h0 (by simp) h1 hs fun a' w' hs' => ih (k + 1) (by omega) st' a' w' h2 hs'

theorem region_ok (hE : TabOK V E) (hg : Γ.gb = V.gb) (h0 : V.G Γ.w) {ρ : Type} {z : ρ} {K : St → Option ρ} {Q : Exit → Act → World → Prop} (hQ : ∀ st a w, Sim Γ st a w → K st = some z → Q .normal a w) {id : Nat} {st : St} {a : Act} {w : World}
    (h : stepOps E false ops ops.toList st K = some z) (hs : Sim Γ st a w) : (Code.region id ops false).wp V.P Q a w := by
  refine wp_region ?_
  rw [List.range_eq_range']
  exact ops_ok hE hg h0 hQ ops.size 0 (by omega) st a w (by simpa using h) hs

/-! ### Regions that draw -/
theorem St.ev_congr {st st' : St} (x : Operand) (h : ∀ t, x = .tmp t → st.tmps[t]? = st'.tmps[t]?) : st.ev x = st'.ev x := by
  cases x with
  | tmp t => simp only [St.ev, List.getD_eq_getElem?_getD, h t rfl]
  | const v => rfl
  | func f => rfl
  | global g => rfl

theorem looks_op {o : Oper} {t : Nat} (h : Operand.tmp t ∈ o.op.operands.toList) : t ∈ o.looksAt ops :=
  List.mem_append_left _ (List.mem_filterMap.2 ⟨.tmp t, h, rfl⟩)
theorem looks_guard {o : Oper} {j d : Nat} {want : Bool} (hg : o.guard = some (j, want)) (hd : ((ops[j]?).bind (·.dst)) = some d) : d ∈ o.looksAt ops := by
  refine List.mem_append_right _ ?_
  rw [hg]; simp [hd]

theorem heapFree_quiet {op : Op} (h : heapFree E op = true) : Op.eff true op = false := by
  cases op <;> (try rfl) <;> (try (simp [heapFree] at h; done))
  rename_i c
  obtain ⟨callee, args, argTypes⟩ := c
  cases callee <;> (try rfl)
  rename_i b
  cases b <;> (try rfl) <;> simp [heapFree] at h

theorem stepV_congr {o : Oper} {st st' : St} (h : ∀ t ∈ o.looksAt ops, st.tmps[t]? = st'.tmps[t]?) (hh : st.heap = st'.heap) : stepV E dr ops o st = stepV E dr ops o st' := by
  have hop : ∀ x ∈ o.op.operands.toList, st.ev x = st'.ev x := fun x hx => St.ev_congr x fun t e => h t (looks_op (by rw [← e]; exact hx))
  unfold stepV
  rw [opX_congr _ hop hh]
  split
  · rfl
  · rename_i j want hg
    split
    · rfl
    · rename_i d hd
      rw [h d (looks_guard hg hd), hh]

theorem quiet_heap {o : Oper} {st : St} {v : AV} {H : Heap} (hq : Op.eff dr o.op = false) (h : stepV E dr ops o st = some (v, H)) : H = st.heap := by
  have hx : ∀ {r : AV × Heap}, (opX E dr st o fun v H => some (v, H)) = some r → r.2 = st.heap := by
    intro r hr
    unfold opX at hr
    rw [hq] at hr
    simp only [Bool.false_eq_true, if_false] at hr
    rw [opQ_nat] at hr
    obtain ⟨y, _, h2⟩ := bind_some' hr
    cases h2; rfl
  unfold stepV at h
  split at h
  · exact hx h
  · split at h
    · cases h
    · split at h
      · split at h
        · exact hx h
        · cases h; rfl
      · cases h; rfl
      · cases h

theorem stepV_free {o : Oper} {st st' : St} (h : ∀ t ∈ o.looksAt ops, st.tmps[t]? = st'.tmps[t]?) (hf : heapFree E o.op = true) {v : AV} {H : Heap} (hv : stepV E true ops o st = some (v, H)) : stepV E true ops o st' = some (v, st'.heap) := by
  have hq := heapFree_quiet hf
  have hH := quiet_heap hq hv
  have hop : ∀ x ∈ o.op.operands.toList, st.ev x = st'.ev x := fun x hx => St.ev_congr x fun t e => h t (looks_op (by rw [← e]; exact hx))
  have hx : (opX E true st o fun v H => some (v, H)) = some (v, H) → (opX E true st' o fun v H => some (v, H)) = some (v, st'.heap) := by
    intro hr
    unfold opX at hr ⊢
    rw [hq] at hr ⊢
    simp only [Bool.false_eq_true, if_false] at hr ⊢
    rw [opQ_nat, opQ_congr _ hop (.inr hf)] at hr
    rw [opQ_nat]
    obtain ⟨y, h1, h2⟩ := bind_some' hr
    cases h2
    rw [h1]; rfl
  unfold stepV at hv ⊢
  split at hv
  · exact hx hv
  · rename_i j want hg
    split at hv
    · cases hv
    · rename_i d hd
      rw [← h d (looks_guard hg hd)]
      split at hv
      · split at hv
        · rename_i hgw; rw [if_pos hgw]; exact hx hv
        · rename_i hgw; rw [if_neg hgw]; cases hv; rfl
      · cases hv; rfl
      · cases hv

theorem give_other {st : St} {d : Option Tmp} {r : AV × Heap} {t : Nat} (h : d ≠ some t) : (st.give d r).tmps[t]? = st.tmps[t]? := by
  cases d with
  | none => rfl
  | some d =>
    simp only [St.give, St.put]
    rw [List.getElem?_set_ne (fun e => h (by rw [e]))]
theorem give_heap {st : St} {d : Option Tmp} {r : AV × Heap} : (st.give d r).heap = r.2 := by cases d <;> rfl

theorem give_comm {st : St} {d e : Option Tmp} {x y : AV} {H1 H2 H : Heap} (h : ∀ t, d = some t → e ≠ some t) : (st.give d (x, H1)).give e (y, H) = (st.give e (y, H2)).give d (x, H) := by
  cases d <;> cases e <;> simp only [St.give, St.put, St.mk.injEq, and_true]
  rename_i t u
  rw [List.set_comm]
  exact fun e => h t rfl (by rw [e])

theorem swap_ok {x y : Oper} (hc : clash E ops x y = false) {st st1 st2 : St} (h1 : stepG E true ops x st = some st1) (h2 : stepG E true ops y st1 = some st2) : ∃ st1', stepG E true ops y st = some st1' ∧ stepG E true ops x st1' = some st2 := by
  simp only [clash, Bool.or_eq_false_iff, Bool.not_eq_false', Bool.and_eq_false_iff] at hc
  obtain ⟨⟨hap, hxe⟩, hye⟩ := hc
  obtain ⟨a1, a2, a3⟩ := Oper.apart_spec hap
  unfold stepG at h1 h2 ⊢
  cases hx : stepV E true ops x st with
  | none => rw [hx] at h1; cases h1
  | some r =>
    obtain ⟨v, H⟩ := r
    rw [hx] at h1
    simp only [Option.map_some, Option.some.injEq] at h1
    subst h1
    cases hy : stepV E true ops y (st.give x.dst (v, H)) with
    | none => rw [hy] at h2; cases h2
    | some r =>
      obtain ⟨u, H2⟩ := r
      rw [hy] at h2
      simp only [Option.map_some, Option.some.injEq] at h2
      subst h2
      have ly : ∀ t ∈ y.looksAt ops, (st.give x.dst (v, H)).tmps[t]? = st.tmps[t]? := fun t ht => give_other fun e => a1 t e ht
      have lx : ∀ r, ∀ t ∈ x.looksAt ops, st.tmps[t]? = (st.give y.dst r).tmps[t]? := fun r t ht => (give_other fun e => a3 t e ht).symm
      have hcomm : ∀ t, x.dst = some t → y.dst ≠ some t := fun t e => a2 t e
      by_cases hex : Op.eff true x.op = true
      · have hfy : heapFree E y.op = true := by
          rcases hxe with h | h
          · rw [hex] at h; cases h
          · exact h
        have hyq := heapFree_quiet hfy
        have hH2 : H2 = H := by rw [quiet_heap hyq hy, give_heap]
        subst hH2
        have hy' := stepV_free ly hfy hy
        refine ⟨_, by rw [hy']; rfl, ?_⟩
        have hx' : stepV E true ops x (st.give y.dst (u, st.heap)) = some (v, H2) := by
          rw [← hx]; exact (stepV_congr (lx _) (by rw [give_heap])).symm
        rw [hx']
        simp only [Option.map_some, Option.some.injEq]
        exact (give_comm hcomm).symm
      · have hxq : Op.eff true x.op = false := by simpa using hex
        have hH : H = st.heap := quiet_heap hxq hx
        subst hH
        have hy' : stepV E true ops y st = some (u, H2) := by rw [← hy]; exact (stepV_congr ly (by rw [give_heap])).symm
        refine ⟨_, by rw [hy']; rfl, ?_⟩
        by_cases hey : Op.eff true y.op = true
        · have hfx : heapFree E x.op = true := by
            rcases hye with h | h
            · rw [hey] at h; cases h
            · exact h
          have hx' := stepV_free (st' := st.give y.dst (u, H2)) (lx _) hfx hx
          rw [hx', give_heap]
          simp only [Option.map_some, Option.some.injEq]
          exact (give_comm hcomm).symm
        · have hyq : Op.eff true y.op = false := by simpa using hey
          have hH2 : H2 = st.heap := by rw [quiet_heap hyq hy, give_heap]
          subst hH2
          have hx' : stepV E true ops x (st.give y.dst (u, st.heap)) = some (v, st.heap) := by
            rw [← hx]; exact (stepV_congr (lx _) (by rw [give_heap])).symm
          rw [hx']
          simp only [Option.map_some, Option.some.injEq]
          exact (give_comm hcomm).symm

/-- Operations one after another. -/
def stepL (E : Tab) (ops : Array Oper) : List Nat → St → Option St
  | [], st => some st
  | i :: r, st => match ops[i]? with
    | some o => (stepG E true ops o st).bind (stepL E ops r)
    | none => none

theorem stepL_front : ∀ (l1 : List Nat) {i : Nat} {l2 : List Nat} {st stn : St} {y : Oper}, ops[i]? = some y → (∀ k ∈ l1, ∀ x, ops[k]? = some x → clash E ops x y = false) → stepL E ops (l1 ++ i :: l2) st = some stn →
    ∃ st', stepG E true ops y st = some st' ∧ stepL E ops (l1 ++ l2) st' = some stn
  | [], i, l2, st, stn, y, hi, _, h => by
    simp only [List.nil_append, stepL, hi] at h
    obtain ⟨st', h1, h2⟩ := bind_some' h
    exact ⟨st', h1, h2⟩
  | k :: l1, i, l2, st, stn, y, hi, hc, h => by
    simp only [List.cons_append, stepL] at h
    split at h
    · rename_i x hx
      obtain ⟨st1, h1, h2⟩ := bind_some' h
      obtain ⟨st2, h3, h4⟩ := stepL_front l1 hi (fun k hk => hc k (List.mem_cons_of_mem _ hk)) h2
      obtain ⟨st1', h5, h6⟩ := swap_ok (hc k List.mem_cons_self x hx) h1 h3
      refine ⟨st1', h5, ?_⟩
      simp only [List.cons_append, stepL, hx, h6, Option.bind_some]
      exact h4
    · cases h

/-- What a bit of a mask says. -/
def Mask (ops : Array Oper) (j m : Nat) : Prop := ∀ i, m.testBit i = true → ∀ D : Nat → Prop, (∀ k o, ops[k]? = some o → D k → ∀ e ∈ o.after.toList, Region.binds .any e = true → D e.on) →
  ∀ o, ops[j]? = some o → (∀ e ∈ o.after.toList, Region.binds .any e = true → D e.on) → D i

theorem fold_bit (acc : List Nat) (i : Nat) : ∀ (l : List Edge) (s : Nat), (l.foldl (fun s e => if Region.binds .any e then s ||| (2 ^ e.on ||| acc.getD e.on 0) else s) s).testBit i = true →
    s.testBit i = true ∨ ∃ e ∈ l, Region.binds .any e = true ∧ (i = e.on ∨ (acc.getD e.on 0).testBit i = true)
  | [], s, h => .inl h
  | e :: l, s, h => by
    simp only [List.foldl_cons] at h
    rcases fold_bit acc i l _ h with h | ⟨e', he', hb, h⟩
    · split at h
      · rename_i hb
        simp only [Nat.testBit_or, Nat.testBit_two_pow, Bool.or_eq_true, decide_eq_true_eq] at h
        rcases h with h | h | h
        · exact .inl h
        · exact .inr ⟨e, List.mem_cons_self, hb, .inl h.symm⟩
        · exact .inr ⟨e, List.mem_cons_self, hb, .inr h⟩
      · exact .inl h
    · exact .inr ⟨e', List.mem_cons_of_mem _ he', hb, h⟩

theorem masks_ok : ∀ (l : List Oper) (acc : List Nat), (∀ n, ops[acc.length + n]? = l[n]?) → (∀ j m, acc[j]? = some m → Mask ops j m) → ∀ j m, (masks l acc)[j]? = some m → Mask ops j m
  | [], acc, _, h, j, m, hm => h j m hm
  | o :: l, acc, hl, h, j, m, hm => by
    simp only [masks] at hm
    refine masks_ok l _ (fun n => ?_) (fun j m hj => ?_) j m hm
    · rw [List.length_append, List.length_singleton, Nat.add_assoc, Nat.add_comm 1 n, hl (n + 1)]; simp
    · rw [List.getElem?_append] at hj
      split at hj
      · exact h j m hj
      · rename_i hge
        have hj0 : j = acc.length := by
          cases hn : j - acc.length with
          | zero => omega
          | succ n => rw [hn] at hj; simp at hj
        subst hj0
        rw [Nat.sub_self] at hj
        simp only [List.getElem?_cons_zero, Option.some.injEq] at hj
        subst hj
        intro i hi D hD o' ho' hed
        have : o' = o := by
          have := hl 0
          rw [Nat.add_zero, ho'] at this
          simpa using this
        subst this
        rcases fold_bit acc i _ _ hi with h' | ⟨e, he, hb, h'⟩
        · simp at h'
        · have hDe := hed e he hb
          rcases h' with rfl | h'
          · exact hDe
          · rw [List.getD_eq_getElem?_getD] at h'
            cases hm' : acc[e.on]? with
            | none => rw [hm'] at h'; simp at h'
            | some m' =>
              rw [hm'] at h'
              simp only [Option.getD_some] at h'
              have h0 := hl 0
              simp only [Nat.add_zero, List.getElem?_cons_zero] at h0
              have hlt : e.on < ops.size := by
                have := (List.getElem?_eq_some_iff.1 hm').1
                have := (Array.getElem?_eq_some_iff.1 h0).1
                omega
              exact h e.on m' hm' i h' D hD _ (Array.getElem?_eq_getElem hlt) (hD e.on _ (Array.getElem?_eq_getElem hlt) hDe)

theorem clash_of_drawOk (h : drawOk E ops = true) : (∀ (j : Nat) y, ops[j]? = some y → ∀ e ∈ y.after.toList, Region.binds .any e = true → e.on < j) ∧
    ∀ (i j : Nat) x y, i < j → ops[i]? = some x → ops[j]? = some y → clash E ops x y = true → ∀ D : Nat → Prop, (∀ k o, ops[k]? = some o → D k → ∀ e ∈ o.after.toList, Region.binds .any e = true → D e.on) → (∀ e ∈ y.after.toList, Region.binds .any e = true → D e.on) → D i := by
  unfold drawOk at h
  simp only [List.all_eq_true, List.mem_range] at h
  refine ⟨fun j y hy e he hb => ?_, fun i j x y hij hx hy hc D hD hed => ?_⟩
  · have := h j (Array.getElem?_eq_some_iff.1 hy).1
    rw [hy] at this
    simp only [Bool.and_eq_true] at this
    have := List.all_eq_true.1 this.1 e he
    simpa [hb] using this
  · have := h j (Array.getElem?_eq_some_iff.1 hy).1
    rw [hy] at this
    simp only [Bool.and_eq_true] at this
    have := List.all_eq_true.1 this.2 i (List.mem_range.2 hij)
    rw [hx] at this
    simp only [hc, Bool.not_true, Bool.false_or] at this
    rw [List.getD_eq_getElem?_getD] at this
    cases hm : (masks ops.toList [])[j]? with
    | none => rw [hm] at this; simp at this
    | some m =>
      rw [hm] at this
      exact masks_ok ops.toList [] (fun n => by simp) (fun j m hj => by simp at hj) j m hm i this D hD y hy hed

theorem any_ok (hE : TabOK V E) (hg : Γ.gb = V.gb) (h0 : V.G Γ.w) (hd : drawOk E ops = true) {stn : St} {Q : Exit → Act → World → Prop} (hQ : ∀ a w, Sim Γ stn a w → Q .normal a w) :
    ∀ (R : List Nat) (listed : Array Bool) (st : St) (a : Act) (w : World), listed.size = ops.size → R.Pairwise (· < ·) → (∀ i, i ∈ R ↔ i < ops.size ∧ listed.getD i true = false) →
      (∀ k o, ops[k]? = some o → listed.getD k false = true → ∀ e ∈ o.after.toList, Region.binds .any e = true → listed.getD e.on false = true) →
      stepL E ops R st = some stn → Sim Γ st a w → wpAny V.P .any ops Q R.length listed a w := by
  obtain ⟨d1, d2⟩ := clash_of_drawOk hd
  intro R
  generalize hn : R.length = n
  induction n generalizing R with
  | zero =>
    intro listed st a w hsz hR hmem hcl hst hs
    have : R = [] := List.eq_nil_of_length_eq_zero hn
    subst this
    simp only [stepL, Option.some.injEq] at hst
    subst hst
    refine ⟨?_, hQ a w hs⟩
    apply List.eq_nil_iff_forall_not_mem.2
    intro i hi
    obtain ⟨h1, o, h2, _⟩ := mem_ready.1 hi
    have := (hmem i).2 ⟨(Array.getElem?_eq_some_iff.1 h2).1, h1⟩
    simp at this
  | succ n ih =>
    intro listed st a w hsz hR hmem hcl hst hs
    have hlf : ∀ {i : Nat}, i < ops.size → listed.getD i true = false → listed.getD i false = false := by
      intro i hi h
      simp only [Array.getD_eq_getD_getElem?, Array.getElem?_eq_getElem (by omega : i < listed.size), Option.getD_some] at h ⊢
      exact h
    have hlt : ∀ {i : Nat}, listed.getD i false = true → i < ops.size ∧ listed.getD i true = true := by
      intro i h
      by_cases hi : i < listed.size
      · simp only [Array.getD_eq_getD_getElem?, Array.getElem?_eq_getElem hi, Option.getD_some] at h ⊢
        exact ⟨by omega, h⟩
      · simp [Array.getD_eq_getD_getElem?, Array.getElem?_eq_none (by omega : listed.size ≤ i)] at h
    refine ⟨fun hr => ?_, fun i hi => ?_⟩
    · exfalso
      cases R with
      | nil => simp at hn
      | cons r R =>
        obtain ⟨h1, h2⟩ := (hmem r).1 List.mem_cons_self
        have : r ∈ Region.ready .any ops listed := by
          refine mem_ready.2 ⟨h2, _, Array.getElem?_eq_getElem h1, fun e he hb => ?_⟩
          have hlt' := d1 r _ (Array.getElem?_eq_getElem h1) e (by simpa using he) hb
          have hno : e.on ∉ r :: R := by
            intro hm
            rcases List.mem_cons.1 hm with h | h
            · omega
            · have := (List.pairwise_cons.1 hR).1 _ h; omega
          have : ¬ (e.on < ops.size ∧ listed.getD e.on true = false) := fun h => hno ((hmem e.on).2 h)
          have hlo : e.on < listed.size := by omega
          simp only [Array.getD_eq_getD_getElem?, Array.getElem?_eq_getElem hlo, Option.getD_some] at this ⊢
          cases hx : listed[e.on] with
          | true => rfl
          | false => exact absurd ⟨by omega, hx⟩ this
        rw [hr] at this
        simp at this
    · obtain ⟨h1, y, hy, hed⟩ := mem_ready.1 hi
      have hiR : i ∈ R := (hmem i).2 ⟨(Array.getElem?_eq_some_iff.1 hy).1, h1⟩
      obtain ⟨l1, l2, rfl⟩ := List.append_of_mem hiR
      have hpw := List.pairwise_append.1 hR
      obtain ⟨st', s1, s2⟩ := stepL_front l1 hy (fun k hk x hx => by
        cases hcl' : clash E ops x y with
        | false => rfl
        | true =>
          have hki : k < i := hpw.2.2 k hk i List.mem_cons_self
          have := d2 k i x y hki hx hy hcl' (fun k => listed.getD k false = true) hcl (fun e he hb => hed e (by simpa using he) hb)
          have h2 := ((hmem k).1 (List.mem_append_left _ hk)).2
          have := (hlt this).2
          rw [h2] at this; cases this) hst
      refine stepG_ok hE hg h0 hy s1 hs fun a' w' hs' => ?_
      have hset : ∀ k (d : Bool), (listed.setIfInBounds i true).getD k d = if k = i then (if i < ops.size then true else d) else listed.getD k d := by
        intro k d
        by_cases e : k = i
        · subst e
          rw [if_pos rfl, if_pos (Array.getElem?_eq_some_iff.1 hy).1]
          simp [Array.getD_eq_getD_getElem?, hsz, (Array.getElem?_eq_some_iff.1 hy).1]
        · rw [if_neg e]; exact getD_set_ne d (fun h => e h.symm)
      have hilt := (Array.getElem?_eq_some_iff.1 hy).1
      refine ih (l1 ++ l2) (by simp at hn ⊢; omega) _ st' a' w' (by simpa using hsz) ?_ (fun k => ?_) (fun k o ho hk e he hb => ?_) s2 hs'
      · refine List.pairwise_append.2 ⟨hpw.1, (List.pairwise_cons.1 hpw.2.1).2, fun x hx y hy => hpw.2.2 x hx y (List.mem_cons_of_mem _ hy)⟩
      · rw [hset]
        have hm := hmem k
        simp only [List.mem_append, List.mem_cons] at hm ⊢
        by_cases e : k = i
        · subst e
          simp only [if_pos rfl, if_pos hilt]
          constructor
          · rintro (h | h)
            · have := hpw.2.2 k h k List.mem_cons_self; omega
            · have := (List.pairwise_cons.1 hpw.2.1).1 k h; omega
          · rintro ⟨_, h⟩; cases h
        · simp only [if_neg e]
          rw [← hm]
          constructor
          · rintro (h | h)
            · exact .inl h
            · exact .inr (.inr h)
          · rintro (h | h | h)
            · exact .inl h
            · exact absurd h e
            · exact .inr h
      · rw [hset] at hk ⊢
        have key : listed.getD e.on false = true := by
          by_cases ek : k = i
          · subst ek
            rw [hy] at ho; cases ho
            exact hed e (by simpa using he) hb
          · rw [if_neg ek] at hk
            exact hcl k o ho hk e he hb
        split
        · rfl
        · exact key

theorem stepOps_list {ρ : Type} {K : St → Option ρ} {z : ρ} : ∀ (n k : Nat), k + n = ops.size → ∀ st, stepOps E true ops (ops.toList.drop k) st K = some z → ∃ stn, stepL E ops (List.range' k n) st = some stn ∧ K stn = some z := by
  intro n
  induction n with
  | zero =>
    intro k hk st h
    rw [List.drop_eq_nil_of_le (by simp; omega)] at h
    exact ⟨st, rfl, h⟩
  | succ n ih =>
    intro k hk st h
    have hlt : k < ops.toList.length := by simp; omega
    rw [List.drop_eq_getElem_cons hlt] at h
    obtain ⟨st', h1, h2⟩ := stepOps_cons h
    obtain ⟨stn, h3, h4⟩ := ih (k + 1) (by omega) st' h2
    refine ⟨stn, ?_, h4⟩
    rw [List.range'_succ]
    have : ops[k]? = some (ops.toList[k]) := by simp
    simp only [stepL, this, h1, Option.bind_some]
    exact h3

theorem region_draw_ok (hE : TabOK V E) (hg : Γ.gb = V.gb) (h0 : V.G Γ.w) (hd : drawOk E ops = true) {ρ : Type} {z : ρ} {K : St → Option ρ} {Q : Exit → Act → World → Prop} (hQ : ∀ st a w, Sim Γ st a w → K st = some z → Q .normal a w) {id : Nat} {st : St} {a : Act} {w : World}
    (h : stepOps E true ops ops.toList st K = some z) (hs : Sim Γ st a w) : (Code.region id ops true).wp V.P Q a w := by
  obtain ⟨stn, h1, h2⟩ := stepOps_list (ops := ops) ops.size 0 (by omega) st (by simpa using h)
  refine wp_region_any V.mixed ?_
  rw [← List.range_eq_range'] at h1
  have hl : (List.range ops.size).length = ops.size := List.length_range
  have := any_ok hE hg h0 hd (stn := stn) (Q := Q) (fun a w hs => hQ stn a w hs h2) (List.range ops.size) (Array.replicate ops.size false) st a { w with drawn := w.drawn + 1 } (by simp) List.pairwise_lt_range (fun i => by
    rw [List.mem_range]
    constructor
    · intro hi; exact ⟨hi, by simp [hi]⟩
    · exact fun h => h.1) (fun k o ho hk => by
      have := (Array.getElem?_eq_some_iff.1 ho).1
      simp [this] at hk) h1 (by
      obtain ⟨β, hb⟩ := hs
      exact ⟨β, hb.ext (Ext.drew w)⟩)
  rw [hl] at this
  exact this
end
end Go.AM
end
section
namespace Go.AM
open Go.RowKit (Below)

def Ex.toExit : Ex → Exit
  | .normal => .normal
  | .exit id => .exit id
  | .ret => .ret

/-- The code c does what f says. -/
def Sound (V : Env) (Γ : Base) (c : Code) (f : (ρ : Type) → St → (Ex → St → Option ρ) → Option ρ) : Prop :=
  ∀ (ρ : Type) (st : St) (K : Ex → St → Option ρ) (z : ρ), f ρ st K = some z → ∀ a w, Sim Γ st a w → ∀ Q : Exit → Act → World → Prop,
    (∀ ex st' a' w', Sim Γ st' a' w' → K ex st' = some z → Q ex.toExit a' w') → c.wp V.P Q a w

/-- The outermost loops of a piece of code. -/
def loopsOf : Code → List Code
  | .seq a b => loopsOf a ++ loopsOf b
  | .cond _ a b => loopsOf a ++ loopsOf b
  | .block _ a => loopsOf a
  | .loop a => [a]
  | _ => []

section
variable {V : Env} {Γ : Base} {E : Tab}

theorem run_ok (hE : TabOK V E) (hg : Γ.gb = V.gb) (h0 : V.G Γ.w) : ∀ (c : Code), (∀ a ∈ loopsOf c, ∀ L, E.lp (firstRegion a) = some L → Sound V Γ (.loop a) fun ρ => L.f ρ) → Sound V Γ c fun ρ => run (ρ := ρ) E c
  | .skip, _ => fun ρ st K z h a w hs Q hQ => wp_skip (hQ .normal st a w hs h)
  | .region id ops draw, _ => fun ρ st K z h a w hs Q hQ => by
    simp only [run] at h
    split at h
    · cases h
    · rename_i hd
      cases draw with
      | false => exact region_ok hE hg h0 (fun st' a' w' hs' h' => hQ .normal st' a' w' hs' h') h hs
      | true =>
        have hd' : drawOk E ops = true := by simpa using hd
        exact region_draw_ok hE hg h0 hd' (fun st' a' w' hs' h' => hQ .normal st' a' w' hs' h') h hs
  | .seq x y, hl => fun ρ st K z h a w hs Q hQ => by
    simp only [run] at h
    have ihx := run_ok hE hg h0 x fun a ha => hl a (by simp [loopsOf, ha])
    have ihy := run_ok hE hg h0 y fun a ha => hl a (by simp [loopsOf, ha])
    refine wp_seq (ihx ρ st _ z h a w hs _ fun ex st' a' w' hs' h' => ?_)
    cases ex with
    | normal => exact ihy ρ st' K z h' a' w' hs' Q hQ
    | exit id => exact hQ (.exit id) st' a' w' hs' h'
    | ret => exact hQ .ret st' a' w' hs' h'
  | .cond c x y, hl => fun ρ st K z h a w hs Q hQ => by
    simp only [run] at h
    split at h
    · rename_i t ht
      obtain ⟨β, hb⟩ := hs
      have hv := ev_ok hb c
      rw [ht] at hv; simp only [RelV] at hv
      refine wp_cond hv ?_
      cases t with
      | true => exact run_ok hE hg h0 x (fun a ha => hl a (by simp [loopsOf, ha])) ρ st K z h a w ⟨β, hb⟩ Q hQ
      | false => exact run_ok hE hg h0 y (fun a ha => hl a (by simp [loopsOf, ha])) ρ st K z h a w ⟨β, hb⟩ Q hQ
    · cases h
  | .block id x, hl => fun ρ st K z h a w hs Q hQ => by
    simp only [run] at h
    refine wp_block (run_ok hE hg h0 x (fun a ha => hl a (by simpa [loopsOf] using ha)) ρ st _ z h a w hs _ fun ex st' a' w' hs' h' => ?_)
    cases ex with
    | normal => exact hQ .normal st' a' w' hs' h'
    | exit id' =>
      simp only [Ex.toExit, Exit.inBlock]
      simp only at h'
      split at h'
      · rename_i e; rw [if_pos e]; exact hQ .normal st' a' w' hs' h'
      · rename_i e; rw [if_neg e]; exact hQ (.exit id') st' a' w' hs' h'
    | ret => exact hQ .ret st' a' w' hs' h'
  | .exit id, _ => fun ρ st K z h a w hs Q hQ => wp_exit (hQ (.exit id) st a w hs h)
  | .ret, _ => fun ρ st K z h a w hs Q hQ => wp_ret (hQ .ret st a w hs h)
  | .loop x, hl => fun ρ st K z h a w hs Q hQ => by
    simp only [run] at h
    split at h
    · rename_i L hL
      exact hl x (by simp [loopsOf]) L hL ρ st K z h a w hs Q hQ
    · cases h
  | .label .., _ | .goto .., _ | .scope .., _ | .rangeFunc .., _ | .refuse .., _ => fun ρ st K z h a w hs Q hQ => by simp [run] at h
end

/-! ### Loops -/
/-- n rounds of a loop. -/
inductive LoopN {α : Type} (step : α → Option (Ex × α)) : Nat → α → Ex × α → Prop where
  | done {x y : α} {ex : Ex} (h : step x = some (ex, y)) (hx : ex ≠ .normal) : LoopN step 0 x (ex, y)
  | more {x y : α} {n : Nat} {r : Ex × α} (h : step x = some (.normal, y)) (hn : LoopN step n y r) : LoopN step (n + 1) x r

theorem LoopN.det {α : Type} {step : α → Option (Ex × α)} {n : Nat} {x : α} {r : Ex × α} (h : LoopN step n x r) : ∀ {m : Nat} {r' : Ex × α}, LoopN step m x r' → r = r' := by
  induction h with
  | done h hx =>
    intro m r' h'
    cases h' with
    | done h2 _ => rw [h] at h2; cases h2; rfl
    | more h2 _ => rw [h] at h2; cases h2; exact absurd rfl hx
  | more h _ ih =>
    intro m r' h'
    cases h' with
    | done h2 hx => rw [h] at h2; cases h2; exact absurd rfl hx
    | more h2 hn => rw [h] at h2; cases h2; exact ih hn

open Classical in
/-- What a loop comes to, if it ends. -/
noncomputable def loopO {α : Type} (step : α → Option (Ex × α)) (x : α) : Option (Ex × α) :=
  if h : ∃ r n, LoopN step n x r then some h.choose else none

theorem loopO_iff {α : Type} {step : α → Option (Ex × α)} {x : α} {r : Ex × α} : loopO step x = some r ↔ ∃ n, LoopN step n x r := by
  unfold loopO
  constructor
  · intro h
    split at h
    · rename_i hh
      cases h
      exact hh.choose_spec
    · cases h
  · rintro ⟨n, h⟩
    rw [dif_pos ⟨r, n, h⟩]
    have hh : ∃ r n, LoopN step n x r := ⟨r, n, h⟩
    obtain ⟨m, hm⟩ := hh.choose_spec
    exact congrArg some (hm.det h)

theorem loopO_step {α : Type} (step : α → Option (Ex × α)) (x : α) : loopO step x = match step x with
    | some (.normal, y) => loopO step y
    | r => r := by
  cases hs : step x with
  | none =>
    simp only
    cases h : loopO step x with
    | none => rfl
    | some r =>
      obtain ⟨n, hn⟩ := loopO_iff.1 h
      cases hn with
      | done h2 _ => rw [hs] at h2; cases h2
      | more h2 _ => rw [hs] at h2; cases h2
  | some r =>
    obtain ⟨ex, y⟩ := r
    cases ex with
    | normal =>
      simp only
      cases h : loopO step y with
      | none =>
        cases h' : loopO step x with
        | none => rfl
        | some r =>
          obtain ⟨n, hn⟩ := loopO_iff.1 h'
          cases hn with
          | done h2 hx => rw [hs] at h2; cases h2; exact absurd rfl hx
          | more h2 hn => rw [hs] at h2; cases h2; rw [loopO_iff.2 ⟨_, hn⟩] at h; cases h
      | some r =>
        obtain ⟨n, hn⟩ := loopO_iff.1 h
        exact loopO_iff.2 ⟨n + 1, .more hs hn⟩
    | exit id => exact loopO_iff.2 ⟨0, .done hs (by simp)⟩
    | ret => exact loopO_iff.2 ⟨0, .done hs (by simp)⟩

/-- A loop's rule, by the count of its rounds. -/
theorem wp_loopN {P : Program} {Q : Exit → Act → World → Prop} {c : Code} (I : Nat → Act → World → Prop)
    (round : ∀ n a w, I n a w → c.wp P (Exit.then (fun a' w' => ∃ m, m < n ∧ I m a' w') Q) a w) {n : Nat} {a : Act} {w : World} (h : I n a w) : (Code.loop c).wp P Q a w := by
  intro b k cs
  have key : ∀ n a w, I n a w → ∃ e a' w', Q e a' w' ∧ Arrives P (lone (b.at a (.code c :: .inLoop c :: k)) cs w) b k cs e a' w' := by
    intro n
    induction n using Nat.strongRecOn with
    | _ n ih =>
      intro a w hI
      obtain ⟨e, a₁, w₁, hq, harr⟩ := round n a w hI b (.inLoop c :: k) cs
      cases e with
      | normal =>
        obtain ⟨m, hlt, hI₁⟩ := hq
        obtain ⟨e₂, a₂, w₂, hq₂, harr₂⟩ := ih m hlt a₁ w₁ hI₁
        exact ⟨e₂, a₂, w₂, hq₂, .of_steps (Steps.trans harr (.one step_inLoop)) harr₂⟩
      | exit id => exact ⟨_, a₁, w₁, hq, .pass (x := .inLoop c) rfl (fun _ _ => .inl (by simp)) harr⟩
      | goto l => exact ⟨_, a₁, w₁, hq, .pass (x := .inLoop c) rfl (fun _ _ => .inl (by simp)) harr⟩
      | ret => exact ⟨_, a₁, w₁, hq, .pass (x := .inLoop c) rfl (fun _ _ => .inl (by simp)) harr⟩
      | panic ch => exact ⟨_, a₁, w₁, hq, .pass (x := .inLoop c) rfl (fun _ _ => .inl (by simp)) harr⟩
      | outgrown => exact ⟨_, a₁, w₁, hq, .pass (x := .inLoop c) rfl (fun _ _ => .inl (by simp)) harr⟩
  obtain ⟨e, a', w', hq, harr⟩ := key _ a w h
  exact ⟨e, a', w', hq, .of_steps (.one step_loop) harr⟩
end Go.AM
end
section
namespace Go.AM
open Go.RowKit (Below)

theorem argsRel_enc {rd : Nat → Nat → Option Value} {I : Nat → Prop} {β : Nat → Option Place} : ∀ (ps : List PK) (x : tysP ps) (vs : List Value) (j : Nat), argsRel rd I β ps x vs j → RelL rd I β (encVals ps x j) vs
  | [], _, _, _, h => by simpa only [argsRel, encVals, RelL] using h
  | .val t :: ps, x, _, j, h => by
    simp only [argsRel] at h
    obtain ⟨v, vs', rfl, h1, h2⟩ := h
    simp only [encVals, RelL]
    exact ⟨v, vs', rfl, tv_enc h1, argsRel_enc ps x.2 vs' j h2⟩
  | .box t :: ps, x, _, j, h => by
    simp only [argsRel] at h
    obtain ⟨v, vs', rfl, h1, h2⟩ := h
    simp only [encVals, RelL]
    exact ⟨v, vs', rfl, h1, argsRel_enc ps x.2 vs' _ h2⟩
  | .row e :: ps, x, _, j, h => by
    simp only [argsRel] at h
    obtain ⟨v, vs', rfl, h1, h2⟩ := h
    simp only [encVals, RelL]
    exact ⟨v, vs', rfl, h1, argsRel_enc ps x.2 vs' _ h2⟩

theorem putAll_len : ∀ (ts : List Nat) (as l : List AV), (putAll ts as l).length = l.length
  | [], _, _ => rfl
  | _ :: _, [], _ => rfl
  | t :: ts, a :: as, l => by simp only [putAll]; rw [putAll_len, List.length_set]

theorem putAll_get : ∀ (ts : List Nat) (as l : List AV) (t : Nat) (y : AV), (putAll ts as l)[t]? = some y → l[t]? = some y ∨ ∃ i : Nat, ts[i]? = some t ∧ as[i]? = some y
  | [], _, _, _, _, h => .inl h
  | _ :: _, [], _, _, _, h => .inl h
  | s :: ts, a :: as, l, t, y, h => by
    simp only [putAll] at h
    rcases putAll_get ts as _ t y h with h | ⟨i, h1, h2⟩
    · by_cases e : s = t
      · subst e
        rw [List.getElem?_set] at h
        simp only [if_true] at h
        split at h
        · cases h; exact .inr ⟨0, rfl, rfl⟩
        · cases h
      · rw [List.getElem?_set_ne e] at h; exact .inl h
    · exact .inr ⟨i + 1, by simpa using h1, by simpa using h2⟩

section
variable {V : Env} {Γ : Base}

theorem dataRow (ps : List PK) (x : tysP ps) : ∀ (i : Nat) r, (rowsIn ps x)[i]? = some (some r) → (∃ e o, r = .typed e o) ∨ ∃ t y, r = .cells (encC t y) := by
  induction ps with
  | nil => intro i r h; simp [rowsIn] at h
  | cons p ps ih =>
    intro i r h
    cases p with
    | val t => exact ih x.2 i r h
    | box t =>
      cases i with
      | zero => simp [rowsIn] at h; exact .inr ⟨t, x.1, h.symm⟩
      | succ i => exact ih x.2 i r (by simpa [rowsIn] using h)
    | row e =>
      cases i with
      | zero => simp [rowsIn] at h; exact .inl ⟨e, x.1, h.symm⟩
      | succ i => exact ih x.2 i r (by simpa [rowsIn] using h)

theorem ids_get : ∀ (rs : List AV), rs.all AV.whole = true → ∀ (i : Nat), (idsOf rs)[i]? = (rs[i]?).bind AV.row
  | [], _, _ => by simp [idsOf]
  | a :: rs, h, i => by
    simp only [List.all_cons, Bool.and_eq_true] at h
    have : ∃ b, a.row = some b := by
      have := h.1
      cases a <;> simp [AV.whole] at this <;> exact ⟨_, rfl⟩
    obtain ⟨b, hb⟩ := this
    simp only [idsOf, hb]
    cases i with
    | zero => simp [hb]
    | succ i => simpa using ids_get rs h.2 i

/-- A state fits as its annotation says. -/
theorem canon_ok {A : Ann} {st : St} {x : tysP A.ps} (hd : decSt A st = some x) {a : Act} {w : World} (hs : Sim Γ st a w) : Sim Γ (encSt A x) a w := by
  obtain ⟨β, hs⟩ := hs
  unfold decSt at hd
  simp only at hd
  split at hd
  case h_2 => cases hd
  rename_i x' m hx
  split at hd
  case isFalse => cases hd
  rename_i hc
  cases hd
  obtain ⟨hn, hc⟩ := hc
  simp only [Bool.and_eq_true, decide_eq_true_eq] at hc
  obtain ⟨⟨⟨hwh, hnd⟩, hdj⟩, hog⟩ := hc
  have has : (A.slots.map fun t => st.tmps.getD t .any) = (A.slots.map Operand.tmp).map st.ev := by simp [St.ev]
  rw [has] at hx hwh hnd hdj hog
  have hargs := evs_ok hs (A.slots.map Operand.tmp)
  obtain ⟨ql, g1, g2, g3, g4⟩ := args_ok hs.ctx A.ps _ _ x m hargs hx
  have hctx := args_ctx hs rfl hx hnd hdj g1 g2 g3
  have hrel := g4 [] _ ⟨fun _ h => h, fun _ _ _ _ h => h⟩
  simp only [List.nil_append, List.length_nil] at hrel
  -- which row is which
  have hof : ∀ (i : Nat) (r : Row), (rowsIn A.ps x)[i]? = some (some r) → ∃ q b r0, ql[i]? = some q ∧ (idsOf (refsOf A.ps ((A.slots.map Operand.tmp).map st.ev)))[i]? = some b ∧ st.heap[b]? = some (some r0) ∧ β b = some q := by
    intro i r hr
    have hi := (List.getElem?_eq_some_iff.1 hr).1
    have e1 : (refsOf A.ps ((A.slots.map Operand.tmp).map st.ev))[i]? = some (refsOf A.ps ((A.slots.map Operand.tmp).map st.ev))[i] := List.getElem?_eq_getElem (by omega)
    have e2 : ql[i]? = some ql[i] := List.getElem?_eq_getElem (by omega)
    obtain ⟨r', h4, h5⟩ := g3 i _ _ _ e1 hr e2
    obtain ⟨b, p, r0, c1, c2, c3, c4, c5, _⟩ := h5.out
    obtain ⟨b', d1, d2⟩ := h5.whole (List.all_eq_true.1 hwh _ (List.getElem_mem _))
    rw [c1] at d1; cases d1
    refine ⟨_, b, r0, e2, ?_, c2, d2⟩
    rw [ids_get _ hwh, e1]; exact c1
  have hsome : ∀ (i : Nat), i < ql.length → ∃ r, (rowsIn A.ps x)[i]? = some (some r) := by
    intro i hi
    have e1 : (refsOf A.ps ((A.slots.map Operand.tmp).map st.ev))[i]? = some (refsOf A.ps ((A.slots.map Operand.tmp).map st.ev))[i] := List.getElem?_eq_getElem (by omega)
    have e2 : ql[i]? = some ql[i] := List.getElem?_eq_getElem (by omega)
    have e3 : (rowsIn A.ps x)[i]? = some (rowsIn A.ps x)[i] := List.getElem?_eq_getElem (by omega)
    obtain ⟨r', h4, _⟩ := g3 i _ _ _ e1 e3 e2
    exact ⟨r', by rw [e3, h4]⟩
  have hI : ∀ B, withRows (Γ.after w β st.heap) β m B → Γ.after w (fun i => ql[i]?) (rowsIn A.ps x) B := by
    intro B hB
    refine ⟨(hctx.imm B hB).1, ?_, (hctx.imm B hB).2⟩
    rcases hB with hB | ⟨b, hb, p, hp, hk, rfl⟩
    · exact hB.2.1
    · obtain ⟨r, hr⟩ := decArgs_rows A.ps _ x m hx b hb
      rcases hs.own b r p hr hp hk with h' | h'
      · exact .inr (.inr h')
      · exact .inr (.inl h')
  have hm : Mono (rdW w) (withRows (Γ.after w β st.heap) β m) (rdW w) (Γ.after w (fun i => ql[i]?) (rowsIn A.ps x)) := ⟨hI, fun _ _ _ _ h => h⟩
  refine ⟨fun i => ql[i]?, ⟨fun i r hr => ?_, hctx.apart, fun B hB => ⟨hB.1, hB.2.2⟩, hctx.dom⟩, hs.frm, ?_, fun t y hy => ?_, hs.defers, fun j i hj => ?_, hs.gbw, hs.low, fun i r q hr hq hk => ?_⟩
  · obtain ⟨p, hp, h1, h2⟩ := hctx.rows i r hr
    exact ⟨p, hp, h1, rowRel_mono hm (fun _ _ h => h) (fun _ => rfl) r h2⟩
  · simp only [encSt, putAll_len, List.length_replicate]; rw [← hn]; exact hs.len
  · have ht : t < A.n := by
      have := (List.getElem?_eq_some_iff.1 hy).1
      simpa [encSt, putAll_len] using this
    have hta : t < a.tmps.size := by rw [← hs.len, hn]; exact ht
    refine ⟨a.tmps[t], Array.getElem?_eq_getElem hta, ?_⟩
    rcases putAll_get _ _ _ t y hy with h | ⟨i, h1, h2⟩
    · simp only [List.getElem?_replicate, ht, if_true, Option.some.injEq] at h
      subst h; simp [RelV]
    · obtain ⟨v, hv, hr⟩ := relL_get _ _ (argsRel_enc _ _ _ _ hrel) i y h2
      simp only [List.map_map, List.getElem?_map, h1, Option.map_some, Function.comp_apply, Option.some.injEq] at hv
      have : a.eval (.tmp t) = a.tmps[t] := by simp [Act.eval, Array.getD_eq_getD_getElem?, hta]
      rw [this] at hv
      subst hv
      exact relV_mono hm (fun _ _ h => h) _ _ hr
  · have hj' : st.orig[j]? = some ((idsOf (refsOf A.ps ((A.slots.map Operand.tmp).map st.ev))).getD i st.heap.length) := by
      rw [hog, List.getElem?_map]
      have : A.og[j]? = some i := hj
      rw [this]; rfl
    obtain ⟨o1, o2, o3⟩ := hs.orig j _ hj'
    cases hid : (idsOf (refsOf A.ps ((A.slots.map Operand.tmp).map st.ev)))[i]? with
    | none => rw [List.getD_eq_getElem?_getD, hid] at o2; simp at o2
    | some b =>
      rw [List.getD_eq_getElem?_getD, hid] at o1 o2 o3
      simp only [Option.getD_some] at o1 o2 o3
      have hil : i < ql.length := by
        rw [ids_get _ hwh] at hid
        cases hr : (refsOf A.ps ((A.slots.map Operand.tmp).map st.ev))[i]? with
        | none => rw [hr] at hid; cases hid
        | some a' => have := (List.getElem?_eq_some_iff.1 hr).1; omega
      obtain ⟨r, hr⟩ := hsome i hil
      obtain ⟨q, b', r0, q1, q2, q3, q4⟩ := hof i r hr
      rw [hid] at q2; cases q2
      refine ⟨by simp only [q1, ← q4]; exact o1, by show i < (rowsIn A.ps x).length; omega, fun r' p hr' hp hk => ?_⟩
      simp only [q1, Option.some.injEq] at hp
      subst hp
      exact o3 r0 _ q3 q4 hk
  · obtain ⟨q', b, r0, q1, q2, q3, q4⟩ := hof i r hr
    simp only [q1, Option.some.injEq] at hq
    subst hq
    exact hs.own b r0 _ q3 q4 hk

theorem put_self {a : Act} {t : Nat} {v : Value} (h : a.tmps[t]? = some v) : a.put (some t) v = a := by
  obtain ⟨tmps, d⟩ := a
  simp only [Act.put]
  congr 1
  apply Array.ext_getElem?
  intro i
  rw [Array.getElem?_setIfInBounds]
  split
  · rename_i e; subst e
    simp only at h
    rw [h, if_pos (Array.getElem?_eq_some_iff.1 h).1]
  · rfl

theorem lift_one {st : St} {a : Act} {w : World} (hs : Sim Γ st a w) {t : Nat} (e : GT) {x : AV} (hx : st.tmps[t]? = some x) (hv : ∀ rd I β v, RelV rd I β x v → ∃ ad, v = .slice ad 0 0) : Sim Γ ({ st with heap := st.heap ++ [some (Row.typed e [])] }.put (some t) (.vw st.heap.length)) a w := by
  obtain ⟨β, hs⟩ := hs
  obtain ⟨v, h1, h2⟩ := hs.tmps t x hx
  obtain ⟨ad, rfl⟩ := hv _ _ _ _ h2
  obtain ⟨β', h3, h4⟩ := sim_nilrow hs e ad
  have := h3.put (some t) h4
  rw [put_self h1] at this
  exact ⟨β', this⟩

theorem lift_ok : ∀ (ts : List Nat) (ps : List PK) {st : St} {a : Act} {w : World}, Sim Γ st a w → Sim Γ (liftRows ts ps st) a w
  | [], _, _, _, _, h => h
  | _ :: _, [], _, _, _, h => h
  | t :: ts, .val _ :: ps, st, a, w, h => lift_ok ts ps h
  | t :: ts, .box _ :: ps, st, a, w, h => lift_ok ts ps h
  | t :: ts, .row e :: ps, st, a, w, h => by
    have hget : ∀ x, x ≠ .any → st.tmps.getD t .any = x → st.tmps[t]? = some x := by
      intro x hx he
      rw [List.getD_eq_getElem?_getD] at he
      cases hh : st.tmps[t]? with
      | none => rw [hh] at he; exact absurd he.symm hx
      | some y => rw [hh] at he; rw [← he]; rfl
    simp only [liftRows]
    split
    · rename_i he
      exact lift_ok ts ps (lift_one h e (hget _ (by simp) he) fun rd I β v hr => by simp only [RelV] at hr; exact ⟨none, hr⟩)
    · rename_i e' he
      exact lift_ok ts ps (lift_one h e (hget _ (by simp) he) fun rd I β v hr => by
        simp only [RelV] at hr
        obtain ⟨ad, h⟩ := hr.2 trivial
        exact ⟨ad, h⟩)
    · exact lift_ok ts ps h

theorem frz_ok : ∀ (ts : List Nat) {st : St} {a : Act} {w : World}, Sim Γ st a w → Sim Γ (frz ts st) a w
  | [], _, _, _, h => h
  | t :: ts, st, a, w, h => by
    simp only [frz]
    split
    · rename_i b ht
      split
      · rename_i e l hb
        refine frz_ok ts ?_
        obtain ⟨β, hs⟩ := h
        have htt : st.tmps[t]? = some (.vw b) := by
          rw [List.getD_eq_getElem?_getD] at ht
          cases hh : st.tmps[t]? with
          | none => rw [hh] at ht; cases ht
          | some y => rw [hh] at ht; rw [← ht]; rfl
        obtain ⟨v, h1, h2⟩ := hs.tmps t _ htt
        obtain ⟨k1, k2⟩ := sim_less (H' := st.heap.set b none) hs List.length_set (fun b' r hr => by
          rw [List.getElem?_set] at hr
          split at hr
          · split at hr <;> simp at hr
          · exact hr)
        obtain ⟨u1, u2, hu, hrel, hnil⟩ := decC_ok hs.ctx (.sl e) [.vw b] [v] l [] [b] (by simp only [RelL]; exact ⟨v, [], rfl, h2, rfl⟩) (by simp [decC, hb])
        simp only [RelL] at hnil; subst hnil
        simp only [List.append_nil] at hu; subst hu
        have hm : Mono (rdW w) (withRows (Γ.after w β st.heap) β [b]) (rdW w) (Γ.after w β (st.heap.set b none)) := ⟨fun B hB => k2 B (by
          rcases hB with hB | ⟨b', hb', p, hp, hk, rfl⟩
          · exact .inl hB
          · simp only [List.mem_singleton] at hb'
            subst hb'
            refine .inr ⟨⟨b', _, p, hb, hp, hk, rfl⟩, ?_⟩
            rintro ⟨b2, r2, p2, e1, e2, e3, e4⟩
            rw [List.getElem?_set] at e1
            split at e1
            · split at e1 <;> simp at e1
            · rename_i hne
              exact hne (hs.ctx.apart b2 b' _ _ p2 p e1 hb e2 hp e3 hk e4).symm), fun _ _ _ _ h => h⟩
        have := k1.put (some t) (x := .sl e false l) (v := v) (by simp only [RelV]; exact ⟨relC_mono hm _ _ _ hrel, by simp⟩)
        rw [put_self h1] at this
        exact ⟨β, this⟩
      · exact frz_ok ts h
    · exact frz_ok ts h

/-- A loop, as its annotation and its round say. -/
noncomputable def loopF (A : Ann) (exs : List Ex) (step : tysP A.ps → Option (Ex × tysP A.ps)) : LoopO := ⟨fun _ st K => (decSt A (liftRows A.slots A.ps st)).bind fun x => (loopO step x).bind fun r => exK r.1 exs fun e => K e (frz A.fz (encSt A r.2))⟩

theorem exK_some {ρ : Type} {x : Ex} {k : Ex → Option ρ} {z : ρ} : ∀ {es : List Ex}, exK x es k = some z → k x = some z
  | [], h => by cases h
  | e :: es, h => by
    simp only [exK, Ex.same] at h
    by_cases hx : x = e
    · simp only [hx, decide_true, cond_true] at h; rw [hx]; exact h
    · simp only [hx, decide_false, cond_false] at h; exact exK_some h

theorem loop_ok {E : Tab} (hE : TabOK V E) (hg : Γ.gb = V.gb) (h0 : V.G Γ.w) {A : Ann} {exs : List Ex} {step : tysP A.ps → Option (Ex × tysP A.ps)} {c : Code} (hl : ∀ a ∈ loopsOf c, ∀ L, E.lp (firstRegion a) = some L → Sound V Γ (.loop a) fun ρ => L.f ρ)
    (hstep : ∀ x, run E c (encSt A x) (fun ex st' => (decSt A st').bind fun y => some (ex, y)) = step x) : Sound V Γ (.loop c) fun ρ => (loopF A exs step).f ρ := by
  intro ρ st K z h a w hs Q hQ
  simp only [loopF] at h
  obtain ⟨x, hx, h⟩ := bind_some' h
  obtain ⟨⟨ex, y⟩, hr, h⟩ := bind_some' h
  have h := exK_some h
  obtain ⟨n, hn⟩ := loopO_iff.1 hr
  refine wp_loopN (n := n) (fun n a w => ∃ x, Sim Γ (encSt A x) a w ∧ LoopN step n x (ex, y)) (fun n a w hI => ?_) ⟨x, canon_ok hx (lift_ok _ _ hs), hn⟩
  obtain ⟨x, hs, hn⟩ := hI
  have body := run_ok hE hg h0 c hl
  cases hn with
  | done h1 hne =>
    rw [← hstep] at h1
    refine body _ _ _ _ h1 a w hs _ fun ex' st' a' w' hs' h' => ?_
    obtain ⟨y', hy, h'⟩ := bind_some' h'
    cases h'
    have := hQ ex (frz A.fz (encSt A y)) a' w' (frz_ok _ (canon_ok hy hs')) h
    cases ex with
    | normal => exact absurd rfl hne
    | exit id => exact this
    | ret => exact this
  | more h1 hm =>
    rename_i y1 m
    rw [← hstep] at h1
    refine body _ _ _ _ h1 a w hs _ fun ex' st' a' w' hs' h' => ?_
    obtain ⟨y', hy, h'⟩ := bind_some' h'
    cases h'
    exact ⟨m, Nat.lt_succ_self m, y1, canon_ok hy hs', hm⟩
end
end Go.AM
end
section
namespace Go.AM
open Go.RowKit (Below)

def resQ (E : Tab) (st : St) : ResultVar → Option AV
  | .tmp t => st.tmps[t]?
  | .cell a t => match E.ti t, st.heap.at (st.tmps.getD a .any) with
    | some i, some (l, k) => if st.heap.there (st.tmps.getD a .any) then partA i l k else none
    | _, _ => none
def resL (E : Tab) (st : St) : List ResultVar → Option (List AV)
  | [] => some []
  | r :: rs => match resQ E st r with
    | some a => match resL E st rs with
      | some l => some (a :: l)
      | none => none
    | none => none

/-- Results read off the end's state: the data, the rows that they were read through, the new rows. -/
def finL (H : Heap) (og : List Nat) : (rk : List RI) → List AV → Option (tysR rk × List Nat × List Nat)
  | [], [] => some ((), [], [])
  | .val t :: rk, a :: as => match decV H t a with
    | some (x, m) => match finL H og rk as with
      | some (y, m', nw) => some ((x, y), m ++ m', nw)
      | none => none
    | none => none
  | .row e :: rk, .vw b :: as => match H[b]? with
    | some (some (.typed e' l)) => if h : e' = e then
        match finL H og rk as with
        | some (y, m, nw) => some ((h ▸ l, y), m, b :: nw)
        | none => none
      else none
    | _ => none
  | .row e :: rk, .pre b k :: as => match H[b]? with
    | some (some (.typed e' l)) => if h : e' = e then
        match finL H og rk as with
        | some (y, m, nw) => some (((h ▸ l : List e.ty).take k, y), m, b :: nw)
        | none => none
      else none
    | _ => none
  | .box t :: rk, .ptr b 0 0 :: as => match H[b]? with
    | some (some (.cells l)) => match decC [] t l with
      | some (x, [], _) => match finL H og rk as with
        | some (y, m, nw) => some ((x, y), m, b :: nw)
        | none => none
      | _ => none
    | _ => none
  | .view j :: rk, .vw b :: as => if og[j]? = some b then
      match H[b]? with
      | some (some (.typed _ l)) => match finL H og rk as with
        | some (y, m, nw) => some ((l.length, y), m, nw)
        | none => none
      | _ => none
    else none
  | .view j :: rk, .pre b k :: as => if og[j]? = some b then
      match finL H og rk as with
      | some (y, m, nw) => some ((k, y), m, nw)
      | none => none
    else none
  | _, _ => none

/-- The rows that were given, as they are at the end. -/
def outQ (H : Heap) : (ps : List PK) → List Nat → Option (tysO ps)
  | [], [] => some ()
  | .val _ :: ps, og => outQ H ps og
  | .box t :: ps, b :: og => match H[b]? with
    | some (some (.cells l)) => match decC [] t l with
      | some (x, [], _) => match outQ H ps og with
        | some r => some (x, r)
        | none => none
      | _ => none
    | _ => none
  | .row e :: ps, b :: og => match H[b]? with
    | some (some (.typed e' l)) => if h : e' = e then
        match outQ H ps og with
        | some r => some (h ▸ l, r)
        | none => none
      else none
    | _ => none
  | _, _ => none

def finQ (E : Tab) (rs : List ResultVar) (ps : List PK) (rk : List RI) (st : St) : Option (tysR rk × tysO ps) :=
  match resL E st rs with
  | some as => match finL st.heap st.orig rk as with
    | some (y, m, nw) => if disj st.orig m && nodupB nw && disj nw st.orig && disj nw m then
        match outQ st.heap ps st.orig with
        | some o => some (y, o)
        | none => none
      else none
    | none => none
  | none => none

def st0 (n : Nat) (ps : List PK) (x : tysP ps) : St := ⟨encVals ps x 0 ++ List.replicate (n - ps.length) .undef, rowsIn ps x, List.range (rowsIn ps x).length⟩

def fnRun (E : Tab) (n : Nat) (rs : List ResultVar) (c : Code) (ps : List PK) (rk : List RI) (x : tysP ps) : Option (tysR rk × tysO ps) :=
  run E c (st0 n ps x) fun ex st => match ex with
    | .exit _ => none
    | _ => finQ E rs ps rk st

theorem encVals_len : ∀ (ps : List PK) (x : tysP ps) (j : Nat), (encVals ps x j).length = ps.length
  | [], _, _ => rfl
  | .val _ :: ps, x, j => by simp [encVals, encVals_len ps x.2 j]
  | .box _ :: ps, x, j => by simp [encVals, encVals_len ps x.2 (j + 1)]
  | .row _ :: ps, x, j => by simp [encVals, encVals_len ps x.2 (j + 1)]

section
variable {V : Env} {E : Tab}

/-- A result's value. -/
def resS (tmps : Array Value) : ResultVar → Sem Value
  | .tmp t => pure (tmps.getD t undef)
  | .cell c t => do loadVar t (← asAddr (tmps.getD c undef))

theorem results_eq (fn : Func) (tmps : Array Value) : results fn tmps = (do let vs ← fn.results.mapM (resS tmps); pure (if h : vs.size = 1 then vs[0] else .tuple vs)) := by
  unfold results
  congr 1

theorem resQ_ok (hE : TabOK V E) {Γ : Base} {st : St} {a : Act} {w : World} {β : Nat → Option Place} (hs : SimB Γ st a w β) {r : ResultVar} {x : AV} (h : resQ E st r = some x) :
    ∃ v, (resS a.tmps r).run V.P w = .ok v w ∧ RelV (rdW w) (Γ.after w β st.heap) β x v := by
  cases r with
  | tmp t =>
    simp only [resQ] at h
    obtain ⟨v, h1, h2⟩ := hs.tmps t x h
    refine ⟨v, ?_, h2⟩
    simp [resS, Array.getD_eq_getD_getElem?, h1]
  | cell c t =>
    simp only [resQ] at h
    split at h
    · rename_i i l k ht hat
      split at h
      · rename_i hth
        obtain ⟨B, o', us, hv, hl, hrd, hrel, hpl⟩ := at_ok hs (ev_ok hs (.tmp c)) hat hth
        obtain ⟨v, hv', _, hsh⟩ := partA_ok (hE.ti _ _ ht) h hrel hpl
        refine ⟨v, ?_, hv'⟩
        have hv0 : a.tmps.getD c undef = .pointer (some ⟨B, o' + k, none⟩) := hv
        unfold resS
        simp only [hv0]
        have hsz := (hE.ti _ _ ht)
        unfold loadVar
        simp only [asAddr, pure_bind, Sem.run_bind, hsz.run_agg, Result.andThen_ok]
        split at hsh
        · rename_i ha
          obtain ⟨hle, rfl⟩ := hsh
          rw [if_pos ha]
          simp only [Sem.run_bind, hsz.run_size, Result.andThen_ok]
          have hlen : ((us.drop k).take i.size).length = i.size := by simp; omega
          rw [show i.size = ((us.drop k).take i.size).length from hlen.symm, run_loadCells_list w ⟨B, o' + k, none⟩ ((us.drop k).take i.size) fun j u hu => ?_]
          · simp
          · rw [add_plain]
            rw [List.getElem?_take] at hu
            split at hu
            · rw [List.getElem?_drop] at hu
              have hkj : k + j < us.length := (List.getElem?_eq_some_iff.1 hu).1
              have := hrd (k + j) (by omega)
              rw [hu] at this
              rw [Nat.add_assoc]
              exact this
            · cases hu
        · rename_i ha
          rw [if_neg ha]
          have hk : k < us.length := (List.getElem?_eq_some_iff.1 hsh).1
          have := hrd k (by omega)
          rw [hsh] at this
          unfold rdW at this
          simp [this]
      · cases h
    · cases h

theorem resL_ok (hE : TabOK V E) {Γ : Base} {st : St} {a : Act} {w : World} {β : Nat → Option Place} (hs : SimB Γ st a w β) : ∀ (rs : List ResultVar) (as : List AV), resL E st rs = some as →
    ∃ vs : List Value, (rs.mapM (m := Sem) (resS a.tmps)).run V.P w = .ok vs w ∧ RelL (rdW w) (Γ.after w β st.heap) β as vs
  | [], as, h => by cases h; exact ⟨[], rfl, by simp [RelL]⟩
  | r :: rs, as, h => by
    simp only [resL] at h
    split at h
    · rename_i x hx
      split at h
      · rename_i l hl
        cases h
        obtain ⟨v, h1, h2⟩ := resQ_ok hE hs hx
        obtain ⟨vs, h3, h4⟩ := resL_ok hE hs rs l hl
        refine ⟨v :: vs, ?_, by simp only [RelL]; exact ⟨v, vs, rfl, h2, h4⟩⟩
        rw [List.mapM_cons]
        simp only [Sem.run_bind, h1, Result.andThen_ok, h3, Sem.run_pure]
      · cases h
    · cases h

theorem results_run {fn : Func} {a : Act} {w : World} {vs : List Value} (h : (fn.results.toList.mapM (m := Sem) (resS a.tmps)).run V.P w = .ok vs w) : (results fn a.tmps).run V.P w = .ok (valOf vs) w := by
  rw [results_eq, Sem.run_bind, Array.mapM_eq_mapM_toList, Sem.run_map, h]
  cases vs with
  | nil => rfl
  | cons v vs => cases vs <;> rfl

theorem box_row {gb : Nat} {w : World} {I : Nat → Prop} {β β2 : Nat → Option Place} {H : Heap} (hc : Ctx gb w I β H) {p : Place} {l : List AV} (h : RowRel w I β p (.cells l)) {t : GT} {y : t.ty} {m : List Nat} (hd : decC [] t l = some (y, [], m)) : RowRel w I β2 p (.cells (encC t y)) := by
  obtain ⟨h1, h2, h3, cs, ty, g1, g2, us, g3, g4, g5, g6⟩ := h
  obtain ⟨hd', rfl⟩ := decC_nil (H := H) _ _ _ _ _ hd
  obtain ⟨u1, u2, hu, hrel, hnil⟩ := decC_ok hc t l us _ _ _ g5 hd'
  simp only [RelL] at hnil; subst hnil
  simp only [List.append_nil] at hu; subst hu
  have hrel' := relC_mono (withRows_nil _) _ _ _ hrel
  have hlen : t.cells = l.length := by rw [← relC_len _ _ _ hrel', g3]
  exact ⟨by rw [encC_len]; omega, h2, h3, cs, ty, g1, by rw [encC_len]; exact ⟨by omega, g2.2⟩, us, by rw [encC_len]; omega, fun j hj => g4 j (by rw [encC_len] at hj; omega), relC_encC _ _ _ hrel', g6⟩

theorem resOK_mono {rd rd' : Nat → Nat → Option Value} {I I' : Nat → Prop} {β : Nat → Option Place} (hm : Mono rd I rd' I') : ∀ (rk : List RI) (y : tysR rk) (nl : List Place) (vs : List Value), resOK rd I β rk y nl vs → resOK rd' I' β rk y nl vs
  | [], _, _, _, h => h
  | .val t :: rk, y, nl, _, h => by
    simp only [resOK] at h ⊢
    obtain ⟨v, vs', rfl, h1, h2⟩ := h
    exact ⟨v, vs', rfl, tv_mono hm h1, resOK_mono hm rk y.2 nl vs' h2⟩
  | .row e :: rk, y, _, _, h => by
    simp only [resOK] at h ⊢
    obtain ⟨q, nl', v, vs', rfl, rfl, h1, h2⟩ := h
    exact ⟨q, nl', v, vs', rfl, rfl, h1, resOK_mono hm rk y.2 nl' vs' h2⟩
  | .box e :: rk, y, _, _, h => by
    simp only [resOK] at h ⊢
    obtain ⟨q, nl', v, vs', rfl, rfl, h1, h2⟩ := h
    exact ⟨q, nl', v, vs', rfl, rfl, h1, resOK_mono hm rk y.2 nl' vs' h2⟩
  | .view e :: rk, y, nl, _, h => by
    simp only [resOK] at h ⊢
    obtain ⟨q, v, vs', rfl, h1, h2⟩ := h
    exact ⟨q, v, vs', rfl, h1, resOK_mono hm rk y.2 nl vs' h2⟩

/-- What the end's state says of the results. -/
structure FinOK (w : World) (I : Nat → Prop) (β β0 : Nat → Option Place) (H : Heap) (rk : List RI) (y : tysR rk) (m nw : List Nat) (vs : List Value) (nl : List Place) : Prop where
  res : resOK (rdW w) (withRows I β m) β0 rk y nl vs
  len : nl.length = nw.length
  len2 : (rowsNew rk y).length = nw.length
  src : ∀ (i : Nat) q, nl[i]? = some q → ∃ b r p, nw[i]? = some b ∧ H[b]? = some (some r) ∧ β b = some p ∧ q.B = p.B ∧ q.backed = p.backed
  rows : ∀ (i : Nat) q r, nl[i]? = some q → (rowsNew rk y)[i]? = some r → ∀ β', RowRel w I β' q r
  alive : ∀ b ∈ m, ∃ r, H[b]? = some (some r)

theorem fin_cons {w : World} {I : Nat → Prop} {β β0 : Nat → Option Place} {H : Heap} {rk : List RI} {y : tysR rk} {m nw : List Nat} {vs : List Value} {nl : List Place} (h : FinOK w I β β0 H rk y m nw vs nl) {q p : Place} {b : Nat} {r0 r : Row} (hb : H[b]? = some (some r0)) (hp : β b = some p) (hB : q.B = p.B) (hk : q.backed = p.backed) (hr : ∀ β', RowRel w I β' q r) :
    (q :: nl).length = (b :: nw).length ∧ (r :: rowsNew rk y).length = (b :: nw).length ∧ (∀ (i : Nat) q', (q :: nl)[i]? = some q' → ∃ b' r p, (b :: nw)[i]? = some b' ∧ H[b']? = some (some r) ∧ β b' = some p ∧ q'.B = p.B ∧ q'.backed = p.backed) ∧ ∀ (i : Nat) q' r', (q :: nl)[i]? = some q' → (r :: rowsNew rk y)[i]? = some r' → ∀ β', RowRel w I β' q' r' := by
  refine ⟨by simp [h.len], by simp [h.len2], fun i q' hq => ?_, fun i q' r' hq hr' => ?_⟩
  · cases i with
    | zero => simp at hq; subst hq; exact ⟨b, r0, p, rfl, hb, hp, hB, hk⟩
    | succ i => exact h.src i q' (by simpa using hq)
  · cases i with
    | zero => simp at hq hr'; subst hq hr'; exact hr
    | succ i => exact h.rows i q' r' (by simpa using hq) (by simpa using hr')

theorem finL_ok {gb : Nat} {w : World} {I : Nat → Prop} {β β0 : Nat → Option Place} {H : Heap} {og : List Nat} (hc : Ctx gb w I β H) (hog : ∀ (j b : Nat), og[j]? = some b → β b = β0 j) : ∀ (rk : List RI) (as : List AV) (vs : List Value) (y : tysR rk) (m nw : List Nat), RelL (rdW w) I β as vs → finL H og rk as = some (y, m, nw) → ∃ nl, FinOK w I β β0 H rk y m nw vs nl
  | [], as, vs, y, m, nw, hr, hd => by
    cases as with
    | nil =>
      simp only [finL] at hd; cases hd; simp only [RelL] at hr
      exact ⟨[], ⟨⟨rfl, hr⟩, rfl, rfl, fun i q h => by simp at h, fun i q r h => by simp at h, by simp⟩⟩
    | cons a as => simp [finL] at hd
  | .val t :: rk, as, vs, y, m, nw, hr, hd => by
    cases as with
    | nil => simp [finL] at hd
    | cons a as =>
      simp only [RelL] at hr
      obtain ⟨v, vs', rfl, h1, h2⟩ := hr
      simp only [finL] at hd
      split at hd
      · rename_i x m1 hx
        split at hd
        · rename_i y' m2 nw' hr2
          cases hd
          obtain ⟨nl, g⟩ := finL_ok hc hog rk as vs' y' m2 nw h2 hr2
          refine ⟨nl, ⟨?_, g.len, g.len2, g.src, g.rows, fun b hb => ?_⟩⟩
          · simp only [resOK]
            exact ⟨v, vs', rfl, tv_mono (withRows_mono _ _ (by intro b hb; simp [hb]) _) (decV_ok hc h1 hx), resOK_mono (withRows_mono _ _ (by intro b hb; simp [hb]) _) _ _ _ _ g.res⟩
          · rcases List.mem_append.1 hb with hb | hb
            · exact decV_rows hx b hb
            · exact g.alive b hb
        · cases hd
      · cases hd
  | .row e :: rk, as, vs, y, m, nw, hr, hd => by
    cases as with
    | nil => simp [finL] at hd
    | cons a as =>
      simp only [RelL] at hr
      obtain ⟨v, vs', rfl, h1, h2⟩ := hr
      have key : ∀ (b n : Nat) (L : List e.ty) (y' : tysR rk) (m' nw' : List Nat), H[b]? = some (some (.typed e L)) → (∃ p, β b = some p ∧ ViewRel p 0 n v) → finL H og rk as = some (y', m', nw') → ∃ nl, FinOK w I β β0 H (.row e :: rk) (L.take n, y') m' (b :: nw') (v :: vs') nl := by
        intro b n L y' m' nw' hb hpv hfin
        obtain ⟨p, hp, hv⟩ := hpv
        obtain ⟨nl, g⟩ := finL_ok hc hog rk as vs' y' m' nw' h2 hfin
        obtain ⟨p', hp', _, hrow⟩ := hc.rows b _ hb
        rw [hp] at hp'; cases hp'
        have hle : 0 + n ≤ p.n := hv.1
        have hpr := fun β' => part_row (β' := β') hrow hle
        simp only [List.drop_zero] at hpr
        obtain ⟨c1, c2, c3, c4⟩ := fin_cons g (q := p.part 0 n) hb hp rfl rfl hpr
        refine ⟨p.part 0 n :: nl, ⟨?_, c1, c2, c3, c4, g.alive⟩⟩
        simp only [resOK]
        exact ⟨_, nl, v, vs', rfl, rfl, part_view hv, g.res⟩
      cases a <;> (try simp [finL] at hd; done)
      case vw b =>
        simp only [finL] at hd
        split at hd
        · rename_i e' l hb
          split at hd
          · rename_i he; subst he
            split at hd
            · rename_i y' m' nw' hfin
              cases hd
              obtain ⟨p, hp, hv⟩ := rel_vw.1 h1
              obtain ⟨hn, _⟩ := typed_len hc hb hp
              have := key b p.n l y' m nw' hb ⟨p, hp, hv⟩ hfin
              rw [hn, List.take_length] at this
              exact this
            · cases hd
          · cases hd
        · cases hd
      case pre b n =>
        simp only [finL] at hd
        split at hd
        · rename_i e' l hb
          split at hd
          · rename_i he; subst he
            split at hd
            · rename_i y' m' nw' hfin
              cases hd
              exact key b n l y' m nw' hb (rel_pre.1 h1) hfin
            · cases hd
          · cases hd
        · cases hd
  | .box t :: rk, as, vs, y, m, nw, hr, hd => by
    cases as with
    | nil => simp [finL] at hd
    | cons a as =>
      simp only [RelL] at hr
      obtain ⟨v, vs', rfl, h1, h2⟩ := hr
      cases a <;> (try simp [finL] at hd; done)
      rename_i b i k
      cases i with
      | succ i => simp [finL] at hd
      | zero => cases k with
        | succ k => simp [finL] at hd
        | zero =>
          simp only [finL] at hd
          split at hd
          · rename_i l hb
            split at hd
            · rename_i x m1 hx
              split at hd
              · rename_i y' m' nw' hfin
                cases hd
                obtain ⟨nl, g⟩ := finL_ok hc hog rk as vs' y' m nw' h2 hfin
                simp only [RelV] at h1
                obtain ⟨p, hp, hk, rfl⟩ := h1
                obtain ⟨p', hp', _, hrow⟩ := hc.rows b _ hb
                rw [hp] at hp'; cases hp'
                obtain ⟨c1, c2, c3, c4⟩ := fin_cons g (q := p) hb hp rfl rfl (fun β' => box_row hc hrow hx (β2 := β'))
                refine ⟨p :: nl, ⟨?_, c1, c2, c3, c4, g.alive⟩⟩
                simp only [resOK]
                exact ⟨_, nl, _, vs', rfl, rfl, ⟨hk, by simp⟩, g.res⟩
              · cases hd
            · cases hd
          · cases hd
  | .view j :: rk, as, vs, y, m, nw, hr, hd => by
    cases as with
    | nil => simp [finL] at hd
    | cons a as =>
      simp only [RelL] at hr
      obtain ⟨v, vs', rfl, h1, h2⟩ := hr
      cases a <;> (try simp [finL] at hd; done)
      case vw b =>
        simp only [finL] at hd
        split at hd
        · rename_i hj
          split at hd
          · rename_i e' l hb
            split at hd
            · rename_i y' m' nw' hfin
              cases hd
              obtain ⟨nl, g⟩ := finL_ok hc hog rk as vs' y' m nw h2 hfin
              obtain ⟨p, hp, hv⟩ := rel_vw.1 h1
              obtain ⟨hn, _⟩ := typed_len hc hb hp
              refine ⟨nl, ⟨?_, g.len, g.len2, g.src, g.rows, g.alive⟩⟩
              simp only [resOK]
              exact ⟨p, v, vs', rfl, ⟨by rw [← hog _ _ hj]; exact hp, by rw [← hn]; exact hv⟩, g.res⟩
            · cases hd
          · cases hd
        · cases hd
      case pre b n =>
        simp only [finL] at hd
        split at hd
        · rename_i hj
          split at hd
          · rename_i y' m' nw' hfin
            cases hd
            obtain ⟨nl, g⟩ := finL_ok hc hog rk as vs' y' m nw h2 hfin
            obtain ⟨p, hp, hv⟩ := rel_pre.1 h1
            refine ⟨nl, ⟨?_, g.len, g.len2, g.src, g.rows, g.alive⟩⟩
            simp only [resOK]
            exact ⟨p, v, vs', rfl, ⟨by rw [← hog _ _ hj]; exact hp, hv⟩, g.res⟩
          · cases hd
        · cases hd

/-- What the end says of the rows that were given. -/
theorem outQ_ok {H : Heap} : ∀ (ps : List PK) (og : List Nat) (o : tysO ps), outQ H ps og = some o → og.length = (rowsOut ps o).length ∧
    ∀ (j b : Nat) r, og[j]? = some b → (rowsOut ps o)[j]? = some (some r) → (∃ e l, r = .typed e l ∧ H[b]? = some (some (.typed e l))) ∨ ∃ t y l m, r = .cells (encC t y) ∧ H[b]? = some (some (.cells l)) ∧ decC [] t l = some (y, [], m)
  | [], og, o, h => by
    cases og with
    | nil => exact ⟨rfl, fun j b r hj => by simp at hj⟩
    | cons b og => simp [outQ] at h
  | .val t :: ps, og, o, h => by
    simp only [outQ] at h
    exact outQ_ok ps og o h
  | .box t :: ps, og, o, h => by
    cases og with
    | nil => simp [outQ] at h
    | cons b og =>
      simp only [outQ] at h
      split at h
      · rename_i l hb
        split at h
        · rename_i x m hx
          split at h
          · rename_i r hr
            cases h
            obtain ⟨h1, h2⟩ := outQ_ok ps og r hr
            refine ⟨by simp [rowsOut, h1], fun j b' r' hj hr' => ?_⟩
            cases j with
            | zero => simp [rowsOut] at hj hr'; subst hj hr'; exact .inr ⟨t, x, l, m, rfl, hb, hx⟩
            | succ j => exact h2 j b' r' (by simpa using hj) (by simpa [rowsOut] using hr')
          · cases h
        · cases h
      · cases h
  | .row e :: ps, og, o, h => by
    cases og with
    | nil => simp [outQ] at h
    | cons b og =>
      simp only [outQ] at h
      split at h
      · rename_i e' l hb
        split at h
        · rename_i he; subst he
          split at h
          · rename_i r hr
            cases h
            obtain ⟨h1, h2⟩ := outQ_ok ps og r hr
            refine ⟨by simp [rowsOut, h1], fun j b' r' hj hr' => ?_⟩
            cases j with
            | zero => simp [rowsOut] at hj hr'; subst hj hr'; exact .inl ⟨_, _, rfl, hb⟩
            | succ j => exact h2 j b' r' (by simpa using hj) (by simpa [rowsOut] using hr')
          · cases h
        · cases h
      · cases h

/-- A function whose run is known is as its run says. -/
theorem fn_ok (hE : TabOK V E) {k : FuncId} {fn : Func} {c : Code} (hf : V.P.funcs[k]? = some fn) (hb : fn.body = some c) {ps : List PK} {rk : List RI} (hn : ps.length ≤ fn.ntmps)
    (hl : ∀ Γ : Base, Γ.gb = V.gb → V.G Γ.w → ∀ a ∈ loopsOf c, ∀ L, E.lp (firstRegion a) = some L → Sound V Γ (.loop a) fun ρ => L.f ρ)
    {x : tysP ps} {y : tysR rk} {o : tysO ps} (h : fnRun E fn.ntmps fn.results.toList c ps rk x = some (y, o)) : CallOK V k ps rk x y o := by
  intro w I β vs hG hgb hctx hargs
  let Γ : Base := ⟨V.gb, w, I, β, rowsIn ps x⟩
  have hIa : ∀ B, I B ↔ Γ.after w β (rowsIn ps x) B := fun B =>
    ⟨fun hB => ⟨(hctx.imm B hB).1, .inl hB, (hctx.imm B hB).2⟩, fun hB => by
      rcases hB.2.1 with h | h | h
      · exact h
      · exact absurd h hB.2.2
      · have := hB.1; have h' : w.heap.size ≤ B := h; omega⟩
  have hm : Mono (rdW w) I (rdW w) (Γ.after w β (rowsIn ps x)) := ⟨fun B hB => (hIa B).1 hB, fun _ _ _ _ h => h⟩
  have hvs := argsRel_enc ps x _ _ hargs
  have hvl := relL_len _ _ hvs
  rw [encVals_len] at hvl
  have hsim : SimB Γ (st0 fn.ntmps ps x) { tmps := vs ++ Array.replicate (fn.ntmps - vs.size) undef, defers := [] } w β := by
    have hvl' : vs.size = ps.length := by rw [← Array.length_toList]; exact hvl
    refine ⟨⟨fun i r hr => ?_, hctx.apart, fun B hB => ⟨hB.1, hB.2.2⟩, hctx.dom⟩, ⟨rfl, rfl, rfl, Nat.le_refl _, fun _ _ _ => rfl⟩, ?_, fun t z hz => ?_, rfl, fun j b hj => ?_, hgb, fun B hB => ?_, fun b r p hb hp hk => ?_⟩
    · obtain ⟨p, hp, h1, h2⟩ := hctx.rows i r hr
      exact ⟨p, hp, h1, rowRel_mono hm (fun _ _ h => h) (fun _ => rfl) r h2⟩
    · simp [st0, encVals_len, hvl']
    · simp only [st0] at hz
      rw [List.getElem?_append] at hz
      split at hz
      · rename_i hlt
        obtain ⟨v, hv, hr⟩ := relL_get _ _ hvs t z hz
        refine ⟨v, ?_, relV_mono hm (fun _ _ h => h) _ _ hr⟩
        rw [encVals_len] at hlt
        rw [Array.getElem?_append_left (by omega), ← Array.getElem?_toList]; exact hv
      · rename_i hge
        rw [encVals_len] at hge hz
        simp only [List.getElem?_replicate] at hz
        split at hz
        · cases hz
          refine ⟨undef, ?_, by simp [RelV]⟩
          rw [Array.getElem?_append_right (by omega), Array.getElem?_replicate, if_pos (by omega)]
        · cases hz
    · simp only [st0] at hj ⊢
      obtain ⟨hlt, e⟩ := List.getElem?_eq_some_iff.1 hj
      simp only [List.length_range] at hlt
      rw [List.getElem_range] at e
      subst e
      refine ⟨rfl, hlt, fun r p hr hp hk => ?_⟩
      obtain ⟨p', hp', _, hrr⟩ := hctx.rows j r hr
      rw [hp] at hp'; cases hp'
      cases r with
      | typed e l =>
        obtain ⟨_, _, _, h4⟩ := hrr
        obtain ⟨cs, ty, g1, _⟩ := h4 hk
        exact ⟨cs, cs, ty, g1, g1, rfl, fun _ _ => rfl⟩
      | cells l =>
        obtain ⟨_, _, _, cs, ty, g1, _⟩ := hrr
        exact ⟨cs, cs, ty, g1, g1, rfl, fun _ _ => rfl⟩
    · obtain ⟨b, r, p, hb, hp, hk, rfl⟩ := hB
      obtain ⟨p', hp', h1, _⟩ := hctx.rows b r hb
      have hp2 : β b = some p := hp
      rw [hp2] at hp'; cases hp'
      exact (h1 hk).1
    · exact .inr ⟨b, r, p, hb, hp, hk, rfl⟩
  refine calls_of_wp hf hb (run_ok (Γ := Γ) hE rfl hG c (hl Γ rfl hG) _ _ _ _ h _ w ⟨β, hsim⟩ _ fun ex st' a' w' hs' h' => ?_)
  have hfin : finQ E fn.results.toList ps rk st' = some (y, o) ∧ ((ex.toExit = .normal) ∨ ex.toExit = .ret) := by
    cases ex with
    | normal => exact ⟨h', .inl rfl⟩
    | exit id => cases h'
    | ret => exact ⟨h', .inr rfl⟩
  obtain ⟨hfin, hex⟩ := hfin
  obtain ⟨β', hs'⟩ := hs'
  have goal : a'.defers = [] ∧ ∃ v, (results fn a'.tmps).run V.P w' = .ok v w' ∧ ∃ v' I', Ending.returned v = .returned v' ∧ FrmC w w' (live (rowsIn ps x) β) ∧ resRel w w' I β rk y v' I' ∧
      ∀ (j : Nat) r, (rowsOut ps o)[j]? = some (some r) → ∃ p, β j = some p ∧ RowRel w' I' β p r ∧ (p.backed = true → SameOut w w' p) := by
    refine ⟨hs'.defers, ?_⟩
    have hfrm : FrmC w w' (live (rowsIn ps x) β) := ⟨hs'.frm.os, hs'.frm.tape, hs'.frm.output, hs'.frm.size, hs'.frm.block⟩
    unfold finQ at hfin
    split at hfin
    case h_2 => cases hfin
    rename_i as has
    obtain ⟨rvs, hrun, hrel⟩ := resL_ok hE hs' _ _ has
    obtain ⟨rm1, rm2, rm3⟩ := rows_match ps x o
    -- from the rows' end to the answer
    have main : outQ st'.heap ps st'.orig = some o → ∀ I' : Nat → Prop, (∀ B, Γ.after w' β' st'.heap B → I' B) → ∀ (j : Nat) r, (rowsOut ps o)[j]? = some (some r) → ∃ p, β j = some p ∧ RowRel w' I' β p r ∧ (p.backed = true → SameOut w w' p) := by
      intro hout I' hI' j r hr
      obtain ⟨o1, o2⟩ := outQ_ok ps _ _ hout
      have hj := (List.getElem?_eq_some_iff.1 hr).1
      have hb : st'.orig[j]? = some st'.orig[j] := List.getElem?_eq_getElem (by omega)
      obtain ⟨c1, c2, c3⟩ := hs'.orig j _ hb
      have hmI : Mono (rdW w') (Γ.after w' β' st'.heap) (rdW w') I' := ⟨hI', fun _ _ _ _ h => h⟩
      rcases o2 j _ r hb hr with ⟨e, l, rfl, hrow⟩ | ⟨t, z, l, m, rfl, hrow, hdec⟩
      · obtain ⟨p, hp, _, hrr⟩ := hs'.ctx.rows _ _ hrow
        exact ⟨p, by rw [← hp, c1], rowData_ok (.inl ⟨e, l, rfl⟩) hmI (fun _ => rfl) hrr, c3 _ p hrow hp⟩
      · obtain ⟨p, hp, _, hrr⟩ := hs'.ctx.rows _ _ hrow
        refine ⟨p, by rw [← hp, c1], ?_, c3 _ p hrow hp⟩
        exact rowData_ok (.inr ⟨t, z, rfl⟩) hmI (fun _ => rfl) (box_row hs'.ctx hrr hdec (β2 := β))
    have alive : outQ st'.heap ps st'.orig = some o → ∀ B, live (rowsIn ps x) β B → ∃ b ∈ st'.orig, ∃ r p, st'.heap[b]? = some (some r) ∧ β' b = some p ∧ p.backed = true ∧ p.B = B := by
      rintro hout B ⟨j, r, q, hr, hq, hk, rfl⟩
      obtain ⟨o1, o2⟩ := outQ_ok ps _ _ hout
      have hj := (List.getElem?_eq_some_iff.1 hr).1
      have hb : st'.orig[j]? = some st'.orig[j] := List.getElem?_eq_getElem (by omega)
      obtain ⟨r', hr'⟩ := rm2 _ (List.getElem_mem (by omega : j < (rowsOut ps o).length))
      have hro : (rowsOut ps o)[j]? = some (some r') := by rw [List.getElem?_eq_getElem (by omega), hr']
      obtain ⟨c1, c2, c3⟩ := hs'.orig j _ hb
      have hq' : β' st'.orig[j] = some q := by rw [c1]; exact hq
      rcases o2 j _ r' hb hro with ⟨e, l, _, hrow⟩ | ⟨t, z, l, m, _, hrow, _⟩
      · exact ⟨_, List.getElem_mem _, _, q, hrow, hq', hk, rfl⟩
      · exact ⟨_, List.getElem_mem _, _, q, hrow, hq', hk, rfl⟩
    have after : outQ st'.heap ps st'.orig = some o → ∀ B, Γ.after w' β' st'.heap B → I B ∨ (w.heap.size ≤ B ∧ B < w'.heap.size) := by
      intro hout B hB
      rcases hB.2.1 with h | h | h
      · exact .inl h
      · obtain ⟨b, _, r, p, h1, h2, h3, h4⟩ := alive hout B h
        exact absurd ⟨b, r, p, h1, h2, h3, h4⟩ hB.2.2
      · exact .inr ⟨h, hB.1⟩
    have new : outQ st'.heap ps st'.orig = some o → ∀ (b : Nat) r p, st'.heap[b]? = some (some r) → β' b = some p → p.backed = true → b ∉ st'.orig → w.heap.size ≤ p.B ∧ p.B < w'.heap.size := by
      intro hout b r p hb hp hk hno
      obtain ⟨p', hp', hg, _⟩ := hs'.ctx.rows b r hb
      rw [hp] at hp'; cases hp'
      refine ⟨?_, (hg hk).2⟩
      rcases hs'.own b r p hb hp hk with h | h
      · exact h
      · obtain ⟨b2, hb2, r2, p2, e1, e2, e3, e4⟩ := alive hout _ h
        have := hs'.ctx.apart b b2 r r2 p p2 hb e1 hp e2 hk e3 e4.symm
        exact absurd (this ▸ hb2) hno
    split at hfin
    case h_2 => cases hfin
    rename_i y' m nw hdr
    split at hfin
    case isFalse => cases hfin
    rename_i hcond
    simp only [Bool.and_eq_true] at hcond
    obtain ⟨⟨⟨hdj, hnd⟩, hno⟩, hnm⟩ := hcond
    split at hfin
    case h_2 => cases hfin
    rename_i o' hout
    cases hfin
    obtain ⟨nl, g⟩ := finL_ok (β0 := β) hs'.ctx (fun j b hj => (hs'.orig j b hj).1) rk _ _ _ _ _ hrel hdr
    have hnn := nodupB_ok _ hnd
    have hI' : ∀ B, Γ.after w' β' st'.heap B → (I B ∨ (w.heap.size ≤ B ∧ B < w'.heap.size ∧ ∀ q ∈ nl, q.backed = true → q.B ≠ B)) := by
      intro B hB
      rcases after hout B hB with h | h
      · exact .inl h
      · refine .inr ⟨h.1, h.2, fun q hq hk e => ?_⟩
        obtain ⟨i, hi⟩ := List.getElem?_of_mem hq
        obtain ⟨b, r, p, e1, e2, e3, e4, e5⟩ := g.src i q hi
        exact hB.2.2 ⟨b, r, p, e2, e3, e5 ▸ hk, by rw [← e4, e]⟩
    refine ⟨_, results_run hrun, _, fun B => I B ∨ (w.heap.size ≤ B ∧ B < w'.heap.size ∧ ∀ q ∈ nl, q.backed = true → q.B ≠ B), rfl, hfrm, ⟨nl, rvs, rfl, resOK_mono ⟨?_, fun _ _ _ _ h => h⟩ _ _ _ _ g.res, ⟨by rw [g.len, g.len2], fun B => Iff.rfl, fun q hq hk => ?_, fun i j q q' hi hj hk hk' hB => ?_, fun i q r hi hr β2 => ?_⟩⟩, main hout _ hI'⟩
    · rintro B (hB | ⟨b, hb, p, hp, hk, rfl⟩)
      · exact hI' B hB
      · obtain ⟨r, hr⟩ := g.alive b hb
        have hn := new hout b r p hr hp hk fun h => disj_ok hdj b h hb
        refine .inr ⟨hn.1, hn.2, fun q hq hkq e => ?_⟩
        obtain ⟨i, hi⟩ := List.getElem?_of_mem hq
        obtain ⟨b2, r2, p2, e1, e2, e3, e4, e5⟩ := g.src i q hi
        have := hs'.ctx.apart b2 b r2 r p2 p e2 hr e3 hp (e5 ▸ hkq) hk (by rw [← e4, e])
        subst this
        exact disj_ok hnm _ (List.mem_of_getElem? e1) hb
    · obtain ⟨i, hi⟩ := List.getElem?_of_mem hq
      obtain ⟨b, r, p, e1, e2, e3, e4, e5⟩ := g.src i q hi
      rw [e4]
      exact new hout b r p e2 e3 (e5 ▸ hk) (disj_ok hno b (List.mem_of_getElem? e1))
    · obtain ⟨b, r, p, e1, e2, e3, e4, e5⟩ := g.src i q hi
      obtain ⟨b2, r2, p2, f1, f2, f3, f4, f5⟩ := g.src j q' hj
      have := hs'.ctx.apart b b2 r r2 p p2 e2 f2 e3 f3 (e5 ▸ hk) (f5 ▸ hk') (by rw [← e4, ← f4, hB])
      subst this
      have hi' := (List.getElem?_eq_some_iff.1 e1)
      have hj' := (List.getElem?_eq_some_iff.1 f1)
      have hp := List.pairwise_iff_getElem.1 hnn
      rcases Nat.lt_trichotomy i j with h | h | h
      · exact absurd (hi'.2.trans hj'.2.symm) (hp i j hi'.1 hj'.1 h)
      · exact h
      · exact absurd (hj'.2.trans hi'.2.symm) (hp j i hj'.1 hi'.1 h)
    · exact rowData_ok (rowsNew_dat _ _ r (List.mem_of_getElem? hr)) ⟨hI', fun _ _ _ _ h => h⟩ (fun _ => rfl) (g.rows i q r hi hr β2)
  rcases hex with hex | hex <;> rw [hex] <;> exact goal
end
end Go.AM
end
section
namespace Go.AM

def sl : Code → Code
  | .seq a _ => a
  | c => c
def sr : Code → Code
  | .seq _ b => b
  | c => c
def ct : Code → Code
  | .cond _ a _ => a
  | c => c
def ce : Code → Code
  | .cond _ _ b => b
  | c => c
def bb : Code → Code
  | .block _ a => a
  | c => c
def lb : Code → Code
  | .loop a => a
  | c => c
def fb (f : Func) : Code := f.body.getD .skip

theorem tok_of {P : Program} {t : TypeId} {i : TI} {d : TypeDesc} {j : TypeInfo} (hu : P.underlying t = some d) (hj : P.types[t]? = some j) (h1 : tdOf d = i.d) (h2 : j.size = i.size) (h3 : j.bytes = i.bytes) (h4 : ∀ g, i.gt = some g → j.zero = some (zeroVal g) ∧ g.cells = i.size ∧ g.isAgg = i.d.agg) : TOk P t i := by
  have hi : P.info? t = some j := by
    show P.toTables.info? t = some j
    unfold Tables.info?
    rw [if_pos (Array.getElem?_eq_some_iff.1 hj).1]; exact hj
  exact ⟨by rw [hu, ← h1]; rfl, by rw [hi, ← h2, ← h3]; rfl, fun g hg => ⟨by rw [hi, ← (h4 g hg).1]; rfl, (h4 g hg).2⟩⟩

section
variable {V : Env} {Γ : Base} {E : Tab}

def TiAll (P : Program) (l : List (Nat × TI)) : Prop := ∀ t i, look l t = some i → TOk P t i
theorem tiNil {P : Program} : TiAll P [] := fun t i h => by cases h
theorem tiCons {P : Program} {t : Nat} {i : TI} {l : List (Nat × TI)} (h : TOk P t i) (k : TiAll P l) : TiAll P ((t, i) :: l) := fun t' i' h' => by
  simp only [look] at h'
  split at h'
  · rename_i e; subst e; cases h'; exact h
  · exact k t' i' h'

def FnAll (V : Env) (l : List (Nat × Callee)) : Prop := ∀ k c, lookC l k = some c → Good V k c
theorem fnNil : FnAll V [] := fun t i h => by cases h
theorem fnCons {k : Nat} {c : Callee} {l : List (Nat × Callee)} (h : Good V k c) (r : FnAll V l) : FnAll V ((k, c) :: l) := fun k' c' h' => by
  simp only [lookC] at h'
  split at h'
  · rename_i e; subst e; cases h'; exact h
  · exact r k' c' h'

def LpAll (V : Env) (Γ : Base) (E : Tab) (l : List Code) : Prop := ∀ a ∈ l, ∀ L, E.lp (firstRegion a) = some L → Sound V Γ (.loop a) fun ρ => L.f ρ
theorem lpNil : LpAll V Γ E [] := fun a h => by cases h
theorem lpCons {a : Code} {L : LoopO} {l : List Code} (h : E.lp (firstRegion a) = some L) (hs : Sound V Γ (.loop a) fun ρ => L.f ρ) (r : LpAll V Γ E l) : LpAll V Γ E (a :: l) := by
  intro b hb M hM
  rcases List.mem_cons.1 hb with rfl | hb
  · rw [h] at hM; cases hM; exact hs
  · exact r b hb M hM

theorem tab_ok {ti : List (Nat × TI)} {fn : List (Nat × Callee)} {lp : List (Nat × LoopO)} (h : TiAll V.P ti) (k : FnAll V fn) : TabOK V ⟨look ti, lookC fn, lookL lp⟩ := ⟨h, k⟩

theorem good_of {k : FuncId} {fn : Func} {c : Code} {C : Callee} (hE : TabOK V E) (hf : V.P.funcs[k]? = some fn) (hb : fn.body = some c) (hname : (fn.name == "runtime.NumGoroutine") = false) (hn : C.ps.length ≤ fn.ntmps)
    (hl : ∀ Γ : Base, Γ.gb = V.gb → V.G Γ.w → LpAll V Γ E (loopsOf c)) (hr : ∀ x, fnRun E fn.ntmps fn.results.toList c C.ps C.rk x = C.g x) : Good V k C :=
  ⟨⟨fn, hf, hname, by rw [hb]; rfl⟩, fun x y o h => fn_ok hE hf hb hn hl (by rw [hr]; exact h)⟩
end
end Go.AM
end
section
namespace Go.AM
open Go.RowKit (Below)

/-- A function whose arguments and results are scalars, by what its contract says. -/
theorem good_ext {V : Env} {k : FuncId} {C : Callee} (hen : ∃ fn, V.P.funcs[k]? = some fn ∧ (fn.name == "runtime.NumGoroutine") = false ∧ fn.body.isNone = false) (hin : ∀ x, rowsIn C.ps x = []) (hout : ∀ o, rowsOut C.ps o = [])
    (h : ∀ x y o, C.g x = some (y, o) → ∀ (w : World) (I : Nat → Prop) (β : Nat → Option Place) (vs : Array Value), V.G w → argsRel (rdW w) I β C.ps x vs.toList 0 →
      Calls V.P k vs w fun e w' => ∃ v, e = .returned v ∧ Ext w w' ∧ ∀ rd I' β', ∃ vl, v = valOf vl ∧ resOK rd I' β' C.rk y [] vl) (hnew : ∀ y, rowsNew C.rk y = []) : Good V k C := by
  refine ⟨hen, fun x y o hx w I β vs hG _ _ hargs => Calls.mono (h x y o hx w I β vs hG hargs) ?_⟩
  rintro e w' ⟨v, rfl, hext, hres⟩
  obtain ⟨vl, rfl, hr⟩ := hres (rdW w') (fun B => I B ∨ (w.heap.size ≤ B ∧ B < w'.heap.size)) β
  refine ⟨_, fun B => I B ∨ (w.heap.size ≤ B ∧ B < w'.heap.size), rfl, ⟨hext.os, hext.tape, hext.output, hext.size, fun B hB _ => hext.block B hB⟩, ⟨[], vl, rfl, hr, ⟨by rw [hnew]; rfl, fun B => ?_, by simp, fun i j q q' hi => by simp at hi, fun i q r hi => by simp at hi⟩⟩, fun j r hr => by rw [hout] at hr; simp at hr⟩
  constructor
  · rintro (h | h)
    · exact .inl h
    · exact .inr ⟨h.1, h.2, by simp⟩
  · rintro (h | h)
    · exact .inl h
    · exact .inr ⟨h.1, h.2.1⟩

theorem arr_str (s : ByteArray) : (⟨s.data.toList.toArray⟩ : ByteArray) = s := by cases s; simp
theorem str_data (l : List UInt8) : ((⟨l.toArray⟩ : ByteArray)).data.toList = l := by simp
end Go.AM
end
