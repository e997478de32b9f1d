/- A machine of plain values (slices as lists) is sound for the program: what it computes, the program computes. No condition beyond what each statement says. -/
import Derived.Orders
import Derived.Below
import Derived.Eval
import Derived.Laws.Cells
import Derived.Laws.Entries
import Derived.Laws.StructEq
import Derived.Laws.Slices
import Derived.Laws.BytesArg
import Derived.Lib.ConvBytes
import Derived.Laws.AppendOwn
set_option linter.unusedSimpArgs false
set_option linter.unusedVariables false
section
namespace Go.AM
open Go.RowKit (Below)

/-- Types of data. A struct is a chain of pairs; 'ptr' points to a variable that nothing writes any more; 'fnv' is a known function with what it captured. -/
inductive GT where
  | int (k : IntKind) | bool | str | err | sl (e : GT) | unit | pair (a b : GT) | ptr (e : GT) | fnv (f : FuncId) (c : GT)
  deriving DecidableEq

@[reducible] def GT.ty : GT → Type
  | .int _ => Int
  | .bool => Bool
  | .str => List UInt8
  | .err => Bool
  | .sl e => List e.ty
  | .unit => Unit
  | .pair a b => a.ty × b.ty
  | .ptr e => Option e.ty
  | .fnv _ c => c.ty

def GT.cells : GT → Nat
  | .unit => 0
  | .pair a b => a.cells + b.cells
  | _ => 1

def GT.zero : (t : GT) → t.ty
  | .int _ => (0 : Int)
  | .bool => false
  | .str => ([] : List UInt8)
  | .err => false
  | .sl _ => []
  | .unit => ()
  | .pair a b => (a.zero, b.zero)
  | .ptr _ => none
  | .fnv _ c => c.zero

/-- Abstract values. 'sl' is a slice that nothing writes any more ('full': its capacity is its length); 'vw', 'pre', 'sub' are slices of a row of the call's own: all of it, its first n elements, n elements from off on; 'ptr' is the address of cell k of element i of a row; 'iptr' that of cell k of a variable that nothing writes any more. -/
inductive AV where
  | any | undef | nils
  | int (k : IntKind) (n : Int) | bool (b : Bool) | str (s : List UInt8) | err (b : Bool)
  | sl (e : GT) (full : Bool) (l : List e.ty)
  | vw (b : Nat) | pre (b n : Nat) | sub (b off n : Nat)
  | ptr (b i k : Nat)
  | nilptr | iptr (e : GT) (x : e.ty) (k : Nat)
  | fn (f : FuncId) (caps : List AV)
  | agg (l : List AV) | tup (l : List AV)

/-- The cells of a value of a type. -/
def encC : (t : GT) → t.ty → List AV
  | .int k, n => [.int k n]
  | .bool, b => [.bool b]
  | .str, s => [.str s]
  | .err, b => [.err b]
  | .sl e, l => [.sl e false l]
  | .unit, _ => []
  | .pair a b, x => encC a x.1 ++ encC b x.2
  | .ptr _, none => [.nilptr]
  | .ptr e, some x => [.iptr e x 0]
  | .fnv f c, x => [.fn f (encC c x)]

/-- The cells of a type's zero value. -/
def zeroC : GT → List AV
  | .sl e => [.sl e true []]
  | .pair a b => zeroC a ++ zeroC b
  | t => encC t t.zero

def GT.isAgg : GT → Bool
  | .unit | .pair .. => true
  | _ => false

/-- A value of a type, as a slot holds it. -/
def enc (t : GT) (x : t.ty) : AV :=
  match t.isAgg, encC t x with
  | true, l => .agg l
  | false, [a] => a
  | false, _ => .any

section
variable (rd : Nat → Nat → Option Value) (I : Nat → Prop)

/-- The cells 'vs' hold the datum x of the type t; what it points to lies in blocks of I. -/
def RelC : (t : GT) → t.ty → List Value → Prop
  | .int k, n, vs => vs = [.int k n]
  | .bool, b, vs => vs = [.bool b]
  | .str, s, vs => ∃ b : ByteArray, vs = [.string b] ∧ b.data.toList = s
  | .err, b, vs => ∃ v, vs = [v] ∧ (b = false → v = .nilIface) ∧ (b = true → ∃ t x, v = .iface t x)
  | .sl e, l, vs => ∃ (a : Option Addr) (c : Nat), vs = [.slice a l.length c] ∧ l.length ≤ c ∧
      (l ≠ [] → ∃ B o, a = some ⟨B, o, none⟩ ∧ I B ∧ ∀ (i : Nat) x, l[i]? = some x →
        ∃ us : List Value, us.length = e.cells ∧ (∀ j, j < e.cells → rd B (o + i * e.cells + j) = us[j]?) ∧ RelC e x us)
  | .unit, _, vs => vs = []
  | .pair a b, x, vs => ∃ v1 v2, vs = v1 ++ v2 ∧ RelC a x.1 v1 ∧ RelC b x.2 v2
  | .ptr _, none, vs => vs = [.pointer none]
  | .ptr e, some x, vs => ∃ B o, vs = [.pointer (some ⟨B, o, none⟩)] ∧ I B ∧
      ∃ us : List Value, us.length = e.cells ∧ (∀ j, j < e.cells → rd B (o + j) = us[j]?) ∧ RelC e x us
  | .fnv f c, x, vs => ∃ us : List Value, vs = [.func (.func f) #[] us.toArray] ∧ RelC c x us
end

/-- Where a row lies: its block, its first cell, cells an element, elements, the block's cells. 'backed' is false only of a nil slice's row. -/
structure Place where
  B : Nat
  O : Nat
  s : Nat
  n : Nat
  z : Nat
  backed : Bool

section
variable (rd : Nat → Nat → Option Value) (I : Nat → Prop) (β : Nat → Option Place)
mutual
def RelV : AV → Value → Prop
  | .any, _ => True
  | .undef, v => v = undef
  | .nils, v => v = .slice none 0 0
  | .int k n, v => v = .int k n
  | .bool b, v => v = .bool b
  | .str s, v => ∃ b : ByteArray, v = .string b ∧ b.data.toList = s
  | .err b, v => (b = false → v = .nilIface) ∧ (b = true → ∃ t x, v = .iface t x)
  | .sl e full l, v => RelC rd I (.sl e) l [v] ∧ (full = true → ∃ a, v = .slice a l.length l.length)
  | .vw b, v => ∃ p, β b = some p ∧ ∃ (a : Option Addr) (c : Nat), v = .slice a p.n c ∧ p.n ≤ c ∧ (c = 0 ∨ (p.backed = true ∧ a = some ⟨p.B, p.O, none⟩ ∧ p.O + c * p.s ≤ p.z))
  | .pre b m, v => ∃ p, β b = some p ∧ m ≤ p.n ∧ ∃ (a : Option Addr) (c : Nat), v = .slice a m c ∧ p.n ≤ c ∧ (c = 0 ∨ (p.backed = true ∧ a = some ⟨p.B, p.O, none⟩ ∧ p.O + c * p.s ≤ p.z))
  | .sub b off m, v => ∃ p, β b = some p ∧ off + m ≤ p.n ∧ ∃ (a : Option Addr) (c : Nat), v = .slice a m c ∧ p.n ≤ off + c ∧ (c = 0 ∨ (p.backed = true ∧ a = some ⟨p.B, p.O + off * p.s, none⟩ ∧ p.O + (off + c) * p.s ≤ p.z))
  | .ptr b i k, v => ∃ p, β b = some p ∧ p.backed = true ∧ v = .pointer (some ⟨p.B, p.O + i * p.s + k, none⟩)
  | .nilptr, v => v = .pointer none
  | .iptr e x k, v => ∃ B o, v = .pointer (some ⟨B, o + k, none⟩) ∧ I B ∧
      ∃ us : List Value, us.length = e.cells ∧ (∀ j, j < e.cells → rd B (o + j) = us[j]?) ∧ RelC rd I e x us
  | .fn f cs, v => ∃ us : List Value, v = .func (.func f) #[] us.toArray ∧ RelL cs us
  | .agg l, v => ∃ us : List Value, v = .agg us.toArray ∧ RelL l us ∧ ∀ u ∈ us, u.oneCell' = true
  | .tup l, v => ∃ us : List Value, v = .tuple us.toArray ∧ RelL l us
def RelL : List AV → List Value → Prop
  | [], us => us = []
  | a :: l, us => ∃ u us', us = u :: us' ∧ RelV a u ∧ RelL l us'
end
end

/-! ### Monotony -/
structure Mono (rd : Nat → Nat → Option Value) (I : Nat → Prop) (rd' : Nat → Nat → Option Value) (I' : Nat → Prop) : Prop where
  imm : ∀ B, I B → I' B
  read : ∀ B, I B → ∀ o v, rd B o = some v → rd' B o = some v

theorem relC_len {rd : Nat → Nat → Option Value} {I : Nat → Prop} : ∀ (t : GT) (x : t.ty) (vs : List Value), RelC rd I t x vs → vs.length = t.cells
  | .int _, _, _, h => by simp only [RelC] at h; subst h; rfl
  | .bool, _, _, h => by simp only [RelC] at h; subst h; rfl
  | .str, _, _, h => by simp only [RelC] at h; obtain ⟨_, rfl, _⟩ := h; rfl
  | .err, _, _, h => by simp only [RelC] at h; obtain ⟨_, rfl, _⟩ := h; rfl
  | .sl _, _, _, h => by simp only [RelC] at h; obtain ⟨_, _, rfl, _⟩ := h; rfl
  | .unit, _, _, h => by simp only [RelC] at h; subst h; rfl
  | .pair a b, x, _, h => by
    simp only [RelC] at h; obtain ⟨v1, v2, rfl, h1, h2⟩ := h
    simp [GT.cells, relC_len a x.1 v1 h1, relC_len b x.2 v2 h2]
  | .ptr _, none, _, h => by simp only [RelC] at h; subst h; rfl
  | .ptr _, some _, _, h => by simp only [RelC] at h; obtain ⟨_, _, rfl, _⟩ := h; rfl
  | .fnv _ _, _, _, h => by simp only [RelC] at h; obtain ⟨_, rfl, _⟩ := h; rfl

theorem relC_plain {rd : Nat → Nat → Option Value} {I : Nat → Prop} : ∀ (t : GT) (x : t.ty) (vs : List Value), RelC rd I t x vs → ∀ v ∈ vs, v.oneCell' = true
  | .int _, _, _, h => by simp only [RelC] at h; subst h; simp [Value.oneCell']
  | .bool, _, _, h => by simp only [RelC] at h; subst h; simp [Value.oneCell']
  | .str, _, _, h => by simp only [RelC] at h; obtain ⟨_, rfl, _⟩ := h; simp [Value.oneCell']
  | .err, b, _, h => by
    simp only [RelC] at h; obtain ⟨v, rfl, h1, h2⟩ := h
    cases b with
    | false => rw [h1 rfl]; simp [Value.oneCell']
    | true => obtain ⟨t, x, rfl⟩ := h2 rfl; simp [Value.oneCell']
  | .sl _, _, _, h => by simp only [RelC] at h; obtain ⟨_, _, rfl, _⟩ := h; simp [Value.oneCell']
  | .unit, _, _, h => by simp only [RelC] at h; subst h; simp
  | .pair a b, x, _, h => by
    simp only [RelC] at h; obtain ⟨v1, v2, rfl, h1, h2⟩ := h
    intro v hv
    rcases List.mem_append.1 hv with hv | hv
    · exact relC_plain a x.1 v1 h1 v hv
    · exact relC_plain b x.2 v2 h2 v hv
  | .ptr _, none, _, h => by simp only [RelC] at h; subst h; simp [Value.oneCell']
  | .ptr _, some _, _, h => by simp only [RelC] at h; obtain ⟨_, _, rfl, _⟩ := h; simp [Value.oneCell']
  | .fnv _ _, _, _, h => by simp only [RelC] at h; obtain ⟨_, rfl, _⟩ := h; simp [Value.oneCell']

theorem reads_mono {rd rd' : Nat → Nat → Option Value} {I I' : Nat → Prop} (h : Mono rd I rd' I') {B o n : Nat} (hB : I B) {us : List Value} (hl : us.length = n)
    (hr : ∀ j, j < n → rd B (o + j) = us[j]?) : ∀ j, j < n → rd' B (o + j) = us[j]? := by
  intro j hj
  have := hr j hj
  rw [List.getElem?_eq_getElem (by omega)] at this ⊢
  exact h.read B hB _ _ this

theorem relC_mono {rd rd' : Nat → Nat → Option Value} {I I' : Nat → Prop} (h : Mono rd I rd' I') : ∀ (t : GT) (x : t.ty) (vs : List Value), RelC rd I t x vs → RelC rd' I' t x vs
  | .int _, _, _, hr => by simpa only [RelC] using hr
  | .bool, _, _, hr => by simpa only [RelC] using hr
  | .str, _, _, hr => by simpa only [RelC] using hr
  | .err, _, _, hr => by simpa only [RelC] using hr
  | .sl e, l, _, hr => by
    simp only [RelC] at hr ⊢
    obtain ⟨a, c, rfl, hc, hh⟩ := hr
    refine ⟨a, c, rfl, hc, fun hne => ?_⟩
    obtain ⟨B, o, rfl, hB, hx⟩ := hh hne
    refine ⟨B, o, rfl, h.imm B hB, fun i x hi => ?_⟩
    obtain ⟨us, hl, hrd, hrel⟩ := hx i x hi
    exact ⟨us, hl, reads_mono h hB hl hrd, relC_mono h e x us hrel⟩
  | .unit, _, _, hr => by simpa only [RelC] using hr
  | .pair a b, x, _, hr => by
    simp only [RelC] at hr ⊢
    obtain ⟨v1, v2, rfl, h1, h2⟩ := hr
    exact ⟨v1, v2, rfl, relC_mono h a x.1 v1 h1, relC_mono h b x.2 v2 h2⟩
  | .ptr _, none, _, hr => by simpa only [RelC] using hr
  | .ptr e, some x, _, hr => by
    simp only [RelC] at hr ⊢
    obtain ⟨B, o, rfl, hB, us, hl, hrd, hrel⟩ := hr
    exact ⟨B, o, rfl, h.imm B hB, us, hl, reads_mono h hB hl hrd, relC_mono h e x us hrel⟩
  | .fnv _ c, x, _, hr => by
    simp only [RelC] at hr ⊢
    obtain ⟨us, rfl, hh⟩ := hr
    exact ⟨us, rfl, relC_mono h c x us hh⟩

mutual
theorem relV_mono {rd rd' : Nat → Nat → Option Value} {I I' : Nat → Prop} {β β' : Nat → Option Place} (h : Mono rd I rd' I') (hb : ∀ b p, β b = some p → β' b = some p) :
    ∀ (x : AV) (v : Value), RelV rd I β x v → RelV rd' I' β' x v
  | .any, _, _ => by simp only [RelV]
  | .undef, _, hr => by simpa only [RelV] using hr
  | .nils, _, hr => by simpa only [RelV] using hr
  | .int _ _, _, hr => by simpa only [RelV] using hr
  | .bool _, _, hr => by simpa only [RelV] using hr
  | .str _, _, hr => by simpa only [RelV] using hr
  | .err _, _, hr => by simpa only [RelV] using hr
  | .sl e full l, v, hr => by simp only [RelV] at hr ⊢; exact ⟨relC_mono h (.sl e) l [v] hr.1, hr.2⟩
  | .vw b, _, hr => by simp only [RelV] at hr ⊢; obtain ⟨p, hp, hh⟩ := hr; exact ⟨p, hb b p hp, hh⟩
  | .pre b m, _, hr => by simp only [RelV] at hr ⊢; obtain ⟨p, hp, hh⟩ := hr; exact ⟨p, hb b p hp, hh⟩
  | .sub b _ m, _, hr => by simp only [RelV] at hr ⊢; obtain ⟨p, hp, hh⟩ := hr; exact ⟨p, hb b p hp, hh⟩
  | .ptr b _ _, _, hr => by simp only [RelV] at hr ⊢; obtain ⟨p, hp, hh⟩ := hr; exact ⟨p, hb b p hp, hh⟩
  | .nilptr, _, hr => by simpa only [RelV] using hr
  | .iptr e x _, _, hr => by
    simp only [RelV] at hr ⊢
    obtain ⟨B, o, rfl, hB, us, hl, hrd, hrel⟩ := hr
    exact ⟨B, o, rfl, h.imm B hB, us, hl, reads_mono h hB hl hrd, relC_mono h e x us hrel⟩
  | .fn _ cs, _, hr => by
    simp only [RelV] at hr ⊢; obtain ⟨us, rfl, hh⟩ := hr; exact ⟨us, rfl, relL_mono h hb cs us hh⟩
  | .agg l, _, hr => by
    simp only [RelV] at hr ⊢; obtain ⟨us, rfl, hh, hp⟩ := hr; exact ⟨us, rfl, relL_mono h hb l us hh, hp⟩
  | .tup l, _, hr => by
    simp only [RelV] at hr ⊢; obtain ⟨us, rfl, hh⟩ := hr; exact ⟨us, rfl, relL_mono h hb l us hh⟩
theorem relL_mono {rd rd' : Nat → Nat → Option Value} {I I' : Nat → Prop} {β β' : Nat → Option Place} (h : Mono rd I rd' I') (hb : ∀ b p, β b = some p → β' b = some p) :
    ∀ (l : List AV) (us : List Value), RelL rd I β l us → RelL rd' I' β' l us
  | [], _, hr => by simpa only [RelL] using hr
  | a :: l, _, hr => by
    simp only [RelL] at hr ⊢
    obtain ⟨u, us', rfl, h1, h2⟩ := hr
    exact ⟨u, us', rfl, relV_mono h hb a u h1, relL_mono h hb l us' h2⟩
end

/-! ### Lists of values -/
section
variable {rd : Nat → Nat → Option Value} {I : Nat → Prop} {β : Nat → Option Place}
theorem relL_len : ∀ (l : List AV) (us : List Value), RelL rd I β l us → us.length = l.length
  | [], _, h => by simp only [RelL] at h; subst h; rfl
  | _ :: l, _, h => by simp only [RelL] at h; obtain ⟨u, us', rfl, _, h2⟩ := h; simp [relL_len l us' h2]
theorem relL_get : ∀ (l : List AV) (us : List Value), RelL rd I β l us → ∀ (i : Nat) x, l[i]? = some x → ∃ v, us[i]? = some v ∧ RelV rd I β x v
  | [], _, _, i, x, hx => by simp at hx
  | a :: l, _, h, i, x, hx => by
    simp only [RelL] at h; obtain ⟨u, us', rfl, h1, h2⟩ := h
    cases i with
    | zero => simp at hx; subst hx; exact ⟨u, rfl, h1⟩
    | succ i => exact relL_get l us' h2 i x (by simpa using hx)
theorem relL_of_get : ∀ (l : List AV) (us : List Value), us.length = l.length → (∀ (i : Nat) x v, l[i]? = some x → us[i]? = some v → RelV rd I β x v) → RelL rd I β l us
  | [], us, hl, _ => by simp only [RelL]; exact List.eq_nil_of_length_eq_zero (by simpa using hl)
  | a :: l, [], hl, _ => by simp at hl
  | a :: l, u :: us, hl, h => by
    simp only [RelL]
    exact ⟨u, us, rfl, h 0 a u rfl rfl, relL_of_get l us (by simpa using hl) fun i x v hx hv => h (i + 1) x v (by simpa using hx) (by simpa using hv)⟩
theorem relL_append {l m : List AV} {us vs : List Value} (h : RelL rd I β l us) (k : RelL rd I β m vs) : RelL rd I β (l ++ m) (us ++ vs) := by
  refine relL_of_get _ _ (by simp [relL_len _ _ h, relL_len _ _ k]) fun i x v hx hv => ?_
  have e1 := relL_len _ _ h
  by_cases hi : i < l.length
  · rw [List.getElem?_append_left hi] at hx
    rw [List.getElem?_append_left (by omega)] at hv
    obtain ⟨v', hv', hr⟩ := relL_get _ _ h i x hx
    rw [hv] at hv'; cases hv'; exact hr
  · rw [List.getElem?_append_right (by omega)] at hx
    rw [List.getElem?_append_right (by omega), e1] at hv
    obtain ⟨v', hv', hr⟩ := relL_get _ _ k _ x hx
    rw [hv] at hv'; cases hv'; exact hr
theorem relL_split {l m : List AV} : ∀ {us : List Value}, RelL rd I β (l ++ m) us → ∃ u1 u2, us = u1 ++ u2 ∧ RelL rd I β l u1 ∧ RelL rd I β m u2 := by
  induction l with
  | nil => exact fun {us} h => ⟨[], us, rfl, by simp [RelL], h⟩
  | cons a l ih =>
    intro us h
    simp only [List.cons_append, RelL] at h
    obtain ⟨u, us', rfl, h1, h2⟩ := h
    obtain ⟨u1, u2, rfl, h3, h4⟩ := ih h2
    exact ⟨u :: u1, u2, rfl, by simp only [RelL]; exact ⟨u, u1, rfl, h1, h3⟩, h4⟩
theorem relL_set : ∀ (l : List AV) (us : List Value), RelL rd I β l us → ∀ (i : Nat) x v, RelV rd I β x v → RelL rd I β (l.set i x) (us.set i v)
  | [], _, h, i, x, v, _ => by simp only [RelL] at h; subst h; simp [RelL]
  | a :: l, _, h, i, x, v, hv => by
    simp only [RelL] at h; obtain ⟨u, us', rfl, h1, h2⟩ := h
    cases i with
    | zero => simp only [List.set_cons_zero, RelL]; exact ⟨v, us', rfl, hv, h2⟩
    | succ i => simp only [List.set_cons_succ, RelL]; exact ⟨u, _, rfl, h1, relL_set l us' h2 i x v hv⟩
end

/-! ### Data into cells and back -/
theorem relC_encC {rd : Nat → Nat → Option Value} {I : Nat → Prop} {β : Nat → Option Place} : ∀ (t : GT) (x : t.ty) (vs : List Value), RelC rd I t x vs → RelL rd I β (encC t x) vs
  | .int _, _, _, h => by simp only [RelC] at h; subst h; simp [encC, RelL, RelV]
  | .bool, _, _, h => by simp only [RelC] at h; subst h; simp [encC, RelL, RelV]
  | .str, _, _, h => by simp only [RelC] at h; obtain ⟨b, rfl, hb⟩ := h; simp [encC, RelL, RelV, hb]
  | .err, _, _, h => by simp only [RelC] at h; obtain ⟨v, rfl, hv⟩ := h; simp only [encC, RelL, RelV]; exact ⟨v, [], rfl, hv, rfl⟩
  | .sl e, l, vs, h => by
    have h' := h
    simp only [RelC] at h; obtain ⟨a, c, rfl, _⟩ := h
    simp only [encC, RelL]
    exact ⟨_, [], rfl, by simp only [RelV]; exact ⟨h', by simp⟩, rfl⟩
  | .unit, _, _, h => by simp only [RelC] at h; subst h; simp [encC, RelL]
  | .pair a b, x, _, h => by
    simp only [RelC] at h; obtain ⟨v1, v2, rfl, h1, h2⟩ := h
    exact relL_append (relC_encC a x.1 v1 h1) (relC_encC b x.2 v2 h2)
  | .ptr _, none, _, h => by simp only [RelC] at h; subst h; simp [encC, RelL, RelV]
  | .ptr e, some x, _, h => by
    simp only [RelC] at h; obtain ⟨B, o, rfl, hB, us, hl, hrd, hrel⟩ := h
    simp only [encC, RelL]
    exact ⟨_, [], rfl, by simp only [RelV]; exact ⟨B, o, rfl, hB, us, hl, hrd, hrel⟩, rfl⟩
  | .fnv f c, x, _, h => by
    simp only [RelC] at h; obtain ⟨us, rfl, hh⟩ := h
    simp only [encC, RelL]
    exact ⟨_, [], rfl, by simp only [RelV]; exact ⟨us, rfl, relC_encC c x us hh⟩, rfl⟩

theorem encC_len : ∀ (t : GT) (x : t.ty), (encC t x).length = t.cells
  | .int _, _ => rfl
  | .bool, _ => rfl
  | .str, _ => rfl
  | .err, _ => rfl
  | .sl _, _ => rfl
  | .unit, _ => rfl
  | .pair a b, x => by simp [encC, GT.cells, encC_len a, encC_len b]
  | .ptr _, none => rfl
  | .ptr _, some _ => rfl
  | .fnv _ _, _ => rfl

theorem zeroC_len : ∀ (t : GT), (zeroC t).length = t.cells
  | .int _ => rfl
  | .bool => rfl
  | .str => rfl
  | .err => rfl
  | .sl _ => rfl
  | .unit => rfl
  | .pair a b => by simp [zeroC, GT.cells, zeroC_len a, zeroC_len b]
  | .ptr _ => rfl
  | .fnv _ _ => rfl
end Go.AM
end
section
namespace Go.AM
open Go.RowKit (Below)

/-- What a block of the call's own holds: elements of a type, or one variable's cells. -/
inductive Row where
  | typed (e : GT) (l : List e.ty)
  | cells (l : List AV)

abbrev Heap := List (Option Row)

/-- Cells read as data of a type; rows are read through. The third part: which rows were read. -/
def decC (H : Heap) : (t : GT) → List AV → Option (t.ty × List AV × List Nat)
  | .int k, .int k' n :: r => if k' = k then some (n, r, []) else none
  | .bool, .bool b :: r => some (b, r, [])
  | .str, .str s :: r => some (s, r, [])
  | .err, .err b :: r => some (b, r, [])
  | .sl e, .sl e' _ l :: r => if h : e' = e then some (h ▸ l, r, []) else none
  | .sl _, .nils :: r => some ([], r, [])
  | .sl e, .vw b :: r =>
    match H[b]? with
    | some (some (.typed e' l)) => if h : e' = e then some (h ▸ l, r, [b]) else none
    | _ => none
  | .sl e, .pre b m :: r =>
    match H[b]? with
    | some (some (.typed e' l)) => if h : e' = e then some ((h ▸ l : List e.ty).take m, r, [b]) else none
    | _ => none
  | .sl e, .sub b off m :: r =>
    match H[b]? with
    | some (some (.typed e' l)) => if h : e' = e then some (((h ▸ l : List e.ty).drop off).take m, r, [b]) else none
    | _ => none
  | .unit, r => some ((), r, [])
  | .pair a b, cs =>
    match decC H a cs with
    | some (x, r, m) =>
      match decC H b r with
      | some (y, r', m') => some ((x, y), r', m ++ m')
      | none => none
    | none => none
  | .ptr _, .nilptr :: r => some (none, r, [])
  | .ptr e, .iptr e' x 0 :: r => if h : e' = e then some (some (h ▸ x), r, []) else none
  | .ptr e, .ptr b 0 0 :: r =>
    match H[b]? with
    | some (some (.cells l)) =>
      match decC H e l with
      | some (x, [], m) => some (some x, r, b :: m)
      | _ => none
    | _ => none
  | .fnv f c, .fn f' cs :: r =>
    if f' = f then
      match decC H c cs with
      | some (x, [], m) => some (x, r, m)
      | _ => none
    else none
  | _, _ => none

/-- A slot's value read as data of a type. -/
def decV (H : Heap) (t : GT) (v : AV) : Option (t.ty × List Nat) :=
  if t.isAgg then
    match v with
    | .agg l => match decC H t l with
      | some (x, [], m) => some (x, m)
      | _ => none
    | _ => none
  else
    match decC H t [v] with
    | some (x, [], m) => some (x, m)
    | _ => none

/-- A slot's value v holds the datum x. -/
def TV (rd : Nat → Nat → Option Value) (I : Nat → Prop) (t : GT) (x : t.ty) (v : Value) : Prop :=
  if t.isAgg then ∃ us : List Value, v = .agg us.toArray ∧ RelC rd I t x us else RelC rd I t x [v]

def rdW (w : World) (B o : Nat) : Option Value := w.cell? ⟨B, o, none⟩
theorem rdW_congr {w w' : World} {B : Nat} (h : w'.heap[B]? = w.heap[B]?) (o : Nat) : rdW w' B o = rdW w B o := by simp [rdW, World.cell?, h]
theorem rdW_cells {w : World} {B : Nat} {cs : Array Value} {ty : TypeId} {fr : Nat × Nat} (h : w.heap[B]? = some (.cells cs ty fr)) (o : Nat) : rdW w B o = cs[o]? := by simp [rdW, World.cell?, h]

/-- A row lies at a place. -/
def RowRel (w : World) (I : Nat → Prop) (β : Nat → Option Place) (p : Place) : Row → Prop
  | .typed e l => p.s = e.cells ∧ p.n = l.length ∧ (p.backed = false → l = []) ∧ (p.backed = true →
      ∃ cs ty, w.heap[p.B]? = some (.cells cs ty (0, 0)) ∧ (p.O + p.n * p.s ≤ cs.size ∧ cs.size = p.z) ∧ ∀ (i : Nat) x, l[i]? = some x →
        ∃ us : List Value, us.length = e.cells ∧ (∀ j, j < e.cells → cs[p.O + i * e.cells + j]? = us[j]?) ∧ RelC (rdW w) I e x us)
  | .cells l => p.s = l.length ∧ p.n = 1 ∧ p.backed = true ∧ ∃ cs ty, w.heap[p.B]? = some (.cells cs ty (0, 0)) ∧ (p.O + l.length ≤ cs.size ∧ cs.size = p.z) ∧
      ∃ us : List Value, us.length = l.length ∧ (∀ j, j < l.length → cs[p.O + j]? = us[j]?) ∧ RelL (rdW w) I β l us ∧ ∀ u ∈ us, u.oneCell' = true

def live (H : Heap) (β : Nat → Option Place) (B : Nat) : Prop := ∃ b r p, H[b]? = some (some r) ∧ β b = some p ∧ p.backed = true ∧ p.B = B

structure Ctx (gb : Nat) (w : World) (I : Nat → Prop) (β : Nat → Option Place) (H : Heap) : Prop where
  rows : ∀ (b : Nat) r, H[b]? = some (some r) → ∃ p, β b = some p ∧ (p.backed = true → gb ≤ p.B ∧ p.B < w.heap.size) ∧ RowRel w I β p r
  apart : ∀ (b b' : Nat) r r' p p', H[b]? = some (some r) → H[b']? = some (some r') → β b = some p → β b' = some p' → p.backed = true → p'.backed = true → p.B = p'.B → b = b'
  imm : ∀ B, I B → B < w.heap.size ∧ ¬ live H β B
  dom : ∀ b, H.length ≤ b → β b = none

/-- Where a call begins. -/
structure Base where
  gb : Nat
  w : World
  I : Nat → Prop
  β : Nat → Option Place
  H : Heap

/-- The blocks that nothing writes any more. -/
def Base.after (Γ : Base) (w : World) (β : Nat → Option Place) (H : Heap) (B : Nat) : Prop :=
  B < w.heap.size ∧ (Γ.I B ∨ live Γ.H Γ.β B ∨ Γ.w.heap.size ≤ B) ∧ ¬ live H β B

structure Frm (Γ : Base) (w : World) : Prop where
  os : w.os = Γ.w.os
  tape : w.tape = Γ.w.tape
  output : w.output = Γ.w.output
  size : Γ.w.heap.size ≤ w.heap.size
  block : ∀ B, B < Γ.w.heap.size → ¬ live Γ.H Γ.β B → w.heap[B]? = Γ.w.heap[B]?

structure St where
  tmps : List AV
  heap : Heap
  orig : List Nat

def St.put (st : St) (d : Option Tmp) (x : AV) : St :=
  match d with
  | some t => { st with tmps := st.tmps.set t x }
  | none => st

/-- Outside a place its block is as it was. -/
def SameOut (w w' : World) (p : Place) : Prop :=
  ∃ (cs cs' : Array Value) (ty : TypeId), w.heap[p.B]? = some (.cells cs ty (0, 0)) ∧ w'.heap[p.B]? = some (.cells cs' ty (0, 0)) ∧ cs'.size = cs.size ∧
    ∀ o, o < p.O ∨ p.O + p.n * p.s ≤ o → cs'[o]? = cs[o]?

structure SimB (Γ : Base) (st : St) (a : Act) (w : World) (β : Nat → Option Place) : Prop where
  ctx : Ctx Γ.gb w (Γ.after w β st.heap) β st.heap
  frm : Frm Γ w
  len : st.tmps.length = a.tmps.size
  tmps : ∀ (t : Nat) x, st.tmps[t]? = some x → ∃ v, a.tmps[t]? = some v ∧ RelV (rdW w) (Γ.after w β st.heap) β x v
  defers : a.defers = []
  orig : ∀ (j b : Nat), st.orig[j]? = some b → β b = Γ.β j ∧ b < st.heap.length ∧ ∀ r p, st.heap[b]? = some (some r) → β b = some p → p.backed = true → SameOut Γ.w w p
  gbw : Γ.gb ≤ Γ.w.heap.size
  low : ∀ B, live Γ.H Γ.β B → Γ.gb ≤ B
  own : ∀ (b : Nat) r p, st.heap[b]? = some (some r) → β b = some p → p.backed = true → Γ.w.heap.size ≤ p.B ∨ live Γ.H Γ.β p.B

def Sim (Γ : Base) (st : St) (a : Act) (w : World) : Prop := ∃ β, SimB Γ st a w β

/-! ### Reading data -/
section
variable {w : World} {I : Nat → Prop} {β : Nat → Option Place} {H : Heap} {gb : Nat}

/-- The blocks of I, and those of the rows listed. -/
def withRows (I : Nat → Prop) (β : Nat → Option Place) (m : List Nat) (B : Nat) : Prop := I B ∨ ∃ b ∈ m, ∃ p, β b = some p ∧ p.backed = true ∧ p.B = B

theorem withRows_mono (m m' : List Nat) (h : ∀ b ∈ m, b ∈ m') (rd : Nat → Nat → Option Value) : Mono rd (withRows I β m) rd (withRows I β m') :=
  ⟨fun _ hB => hB.imp id fun ⟨b, hb, r⟩ => ⟨b, h b hb, r⟩, fun _ _ _ _ h => h⟩
theorem withRows_base (m : List Nat) (rd : Nat → Nat → Option Value) : Mono rd I rd (withRows I β m) := ⟨fun _ hB => .inl hB, fun _ _ _ _ h => h⟩

theorem typed_cells (hc : Ctx gb w I β H) {b : Nat} {e : GT} {l : List e.ty} (hb : H[b]? = some (some (.typed e l))) {p : Place} (hp : β b = some p) (hk : p.backed = true) :
    ∀ (i : Nat) x, l[i]? = some x → ∃ us : List Value, us.length = e.cells ∧ (∀ j, j < e.cells → rdW w p.B (p.O + i * e.cells + j) = us[j]?) ∧ RelC (rdW w) I e x us := by
  obtain ⟨p', hp', _, _, _, _, hr⟩ := hc.rows b _ hb
  rw [hp] at hp'; cases hp'
  obtain ⟨cs, ty, hh, _, hx⟩ := hr hk
  intro i x hi
  obtain ⟨us, h1, h2, h3⟩ := hx i x hi
  exact ⟨us, h1, fun j hj => by rw [rdW_cells hh]; exact h2 j hj, h3⟩

theorem typed_len (hc : Ctx gb w I β H) {b : Nat} {e : GT} {l : List e.ty} (hb : H[b]? = some (some (.typed e l))) {p : Place} (hp : β b = some p) : p.n = l.length ∧ p.s = e.cells ∧ (p.backed = false → l = []) := by
  obtain ⟨p', hp', _, h1, h2, h3, _⟩ := hc.rows b _ hb
  rw [hp] at hp'; cases hp'
  exact ⟨h2, h1, h3⟩

theorem relC_slice {e : GT} {l : List e.ty} {I' : Nat → Prop} {a : Option Addr} {c B o : Nat} (hl : l.length ≤ c) (ha : l ≠ [] → a = some ⟨B, o, none⟩) (hB : l ≠ [] → I' B)
    (h : ∀ (i : Nat) x, l[i]? = some x → ∃ us : List Value, us.length = e.cells ∧ (∀ j, j < e.cells → rdW w B (o + i * e.cells + j) = us[j]?) ∧ RelC (rdW w) I' e x us) :
    RelC (rdW w) I' (.sl e) l [.slice a l.length c] := by
  simp only [RelC]
  exact ⟨a, c, rfl, hl, fun hne => ⟨B, o, ha hne, hB hne, h⟩⟩

theorem decC_ok (hc : Ctx gb w I β H) : ∀ (t : GT) (l : List AV) (us : List Value) x r m, RelL (rdW w) I β l us → decC H t l = some (x, r, m) →
    ∃ u1 u2, us = u1 ++ u2 ∧ RelC (rdW w) (withRows I β m) t x u1 ∧ RelL (rdW w) I β r u2 := by
  intro t
  induction t with
  | int k =>
    intro l us x r m hr hd
    cases l with
    | nil => simp [decC] at hd
    | cons a l =>
      simp only [RelL] at hr; obtain ⟨u, us', rfl, h1, h2⟩ := hr
      cases a <;> (try simp only [decC, reduceCtorEq] at hd)
      rename_i k' n
      split at hd
      · rename_i hk; subst hk
        cases hd
        refine ⟨[u], us', rfl, ?_, h2⟩
        simp only [RelV] at h1; subst h1; simp [RelC]
      · cases hd
  | bool =>
    intro l us x r m hr hd
    cases l with
    | nil => simp [decC] at hd
    | cons a l =>
      simp only [RelL] at hr; obtain ⟨u, us', rfl, h1, h2⟩ := hr
      cases a <;> (try simp only [decC, reduceCtorEq] at hd)
      cases hd
      refine ⟨[u], us', rfl, ?_, h2⟩
      simp only [RelV] at h1; subst h1; simp [RelC]
  | str =>
    intro l us x r m hr hd
    cases l with
    | nil => simp [decC] at hd
    | cons a l =>
      simp only [RelL] at hr; obtain ⟨u, us', rfl, h1, h2⟩ := hr
      cases a <;> (try simp only [decC, reduceCtorEq] at hd)
      cases hd
      refine ⟨[u], us', rfl, ?_, h2⟩
      simp only [RelV] at h1; obtain ⟨b, rfl, hb⟩ := h1; simp [RelC, hb]
  | err =>
    intro l us x r m hr hd
    cases l with
    | nil => simp [decC] at hd
    | cons a l =>
      simp only [RelL] at hr; obtain ⟨u, us', rfl, h1, h2⟩ := hr
      cases a <;> (try simp only [decC, reduceCtorEq] at hd)
      cases hd
      refine ⟨[u], us', rfl, ?_, h2⟩
      simp only [RelV] at h1; simp only [RelC]; exact ⟨u, rfl, h1⟩
  | sl e _ =>
    intro l us x r m hr hd
    cases l with
    | nil => simp [decC] at hd
    | cons a l =>
      simp only [RelL] at hr; obtain ⟨u, us', rfl, h1, h2⟩ := hr
      cases a <;> (try simp only [decC, reduceCtorEq] at hd)
      case sl e' full l' =>
        split at hd
        · rename_i he; subst he
          cases hd
          simp only [RelV] at h1
          exact ⟨[u], us', rfl, relC_mono (withRows_base _ _) _ _ _ h1.1, h2⟩
        · cases hd
      case nils =>
        cases hd
        simp only [RelV] at h1; subst h1
        exact ⟨[_], us', rfl, by simp only [RelC]; exact ⟨none, 0, rfl, by simp, fun h => absurd rfl h⟩, h2⟩
      case vw b =>
        split at hd
        · rename_i e' l' hb
          split at hd
          · rename_i he; subst he
            cases hd
            simp only [RelV] at h1
            obtain ⟨p, hp, a, c, rfl, hcap, hz⟩ := h1
            obtain ⟨hn, hs, hu⟩ := typed_len hc hb hp
            refine ⟨[_], us', rfl, ?_, h2⟩
            rw [hn] at hcap ⊢
            simp only
            cases hk : p.backed with
            | false =>
              have := hu hk
              subst this
              simp only [RelC]; exact ⟨a, c, rfl, hcap, fun h => absurd rfl h⟩
            | true =>
              refine relC_slice (B := p.B) (o := p.O) hcap (fun hne => ?_) (fun _ => .inr ⟨b, by simp, p, hp, hk, rfl⟩) fun i x hi => ?_
              · rcases hz with hz | hz
                · subst hz; exact absurd (List.eq_nil_of_length_eq_zero (by omega)) hne
                · exact hz.2.1
              · obtain ⟨us, a1, a2, a3⟩ := typed_cells hc hb hp hk i x hi
                exact ⟨us, a1, a2, relC_mono (withRows_base _ _) _ _ _ a3⟩
          · cases hd
        · cases hd
      case pre b n =>
        split at hd
        · rename_i e' l' hb
          split at hd
          · rename_i he; subst he
            cases hd
            simp only [RelV] at h1
            obtain ⟨p, hp, hle, a, c, rfl, hcap, hz⟩ := h1
            obtain ⟨hn, hs, hu⟩ := typed_len hc hb hp
            refine ⟨[_], us', rfl, ?_, h2⟩
            have hlen : (l'.take n).length = n := by rw [List.length_take]; omega
            simp only
            have key : RelC (rdW w) (withRows I β [b]) (.sl e') (l'.take n) [.slice a (l'.take n).length c] := by
              cases hk : p.backed with
              | false =>
                have := hu hk
                subst this
                simp only [RelC]; exact ⟨a, c, rfl, by simp, fun h => absurd (by simp) h⟩
              | true =>
                refine relC_slice (B := p.B) (o := p.O) (by omega) (fun hne => ?_) (fun _ => .inr ⟨b, by simp, p, hp, hk, rfl⟩) fun i x hi => ?_
                · rcases hz with hz | hz
                  · subst hz
                    have : n = 0 := by omega
                    subst this; exact absurd (by simp) hne
                  · exact hz.2.1
                · have hi' : l'[i]? = some x := by
                    rw [List.getElem?_take] at hi
                    split at hi
                    · exact hi
                    · cases hi
                  obtain ⟨us, a1, a2, a3⟩ := typed_cells hc hb hp hk i x hi'
                  exact ⟨us, a1, a2, relC_mono (withRows_base _ _) _ _ _ a3⟩
            rw [hlen] at key; exact key
          · cases hd
        · cases hd
      case sub b off n =>
        split at hd
        · rename_i e' l' hb
          split at hd
          · rename_i he; subst he
            cases hd
            simp only [RelV] at h1
            obtain ⟨p, hp, hle, a, c, rfl, hcap, hz⟩ := h1
            obtain ⟨hn, hs, hu⟩ := typed_len hc hb hp
            refine ⟨[_], us', rfl, ?_, h2⟩
            have hlen : ((l'.drop off).take n).length = n := by rw [List.length_take, List.length_drop]; omega
            simp only
            have key : RelC (rdW w) (withRows I β [b]) (.sl e') ((l'.drop off).take n) [.slice a ((l'.drop off).take n).length c] := by
              cases hk : p.backed with
              | false =>
                have := hu hk
                subst this
                simp only [RelC]; exact ⟨a, c, rfl, by simp, fun h => absurd (by simp) h⟩
              | true =>
                refine relC_slice (B := p.B) (o := p.O + off * p.s) (by omega) (fun hne => ?_) (fun _ => .inr ⟨b, by simp, p, hp, hk, rfl⟩) fun i x hi => ?_
                · rcases hz with hz | hz
                  · subst hz
                    have : n = 0 := by omega
                    subst this; exact absurd (by simp) hne
                  · exact hz.2.1
                · have hi' : l'[off + i]? = some x := by
                    rw [List.getElem?_take] at hi
                    split at hi
                    · rw [List.getElem?_drop] at hi; exact hi
                    · cases hi
                  obtain ⟨us, a1, a2, a3⟩ := typed_cells hc hb hp hk _ x hi'
                  refine ⟨us, a1, fun j hj => ?_, relC_mono (withRows_base _ _) _ _ _ a3⟩
                  have := a2 j hj
                  rw [hs, show p.O + off * e'.cells + i * e'.cells + j = p.O + (off + i) * e'.cells + j from by rw [Nat.add_mul]; omega]
                  exact this
            rw [hlen] at key; exact key
          · cases hd
        · cases hd
  | unit =>
    intro l us x r m hr hd
    simp only [decC] at hd
    cases hd
    exact ⟨[], us, rfl, by simp [RelC], hr⟩
  | pair a b iha ihb =>
    intro l us x r m hr hd
    simp only [decC] at hd
    split at hd
    · rename_i x1 r1 m1 h1
      split at hd
      · rename_i x2 r2 m2 h2
        cases hd
        obtain ⟨u1, u2, rfl, ha, hr1⟩ := iha l us x1 r1 m1 hr h1
        obtain ⟨u3, u4, rfl, hb, hr2⟩ := ihb r1 u2 x2 _ m2 hr1 h2
        refine ⟨u1 ++ u3, u4, by simp, ?_, hr2⟩
        simp only [RelC]
        exact ⟨u1, u3, rfl, relC_mono (withRows_mono _ _ (by intro b hb; simp [hb]) _) _ _ _ ha, relC_mono (withRows_mono _ _ (by intro b hb; simp [hb]) _) _ _ _ hb⟩
      · cases hd
    · cases hd
  | ptr e ih =>
    intro l us x r m hr hd
    cases l with
    | nil => simp [decC] at hd
    | cons a l =>
      simp only [RelL] at hr; obtain ⟨u, us', rfl, h1, h2⟩ := hr
      cases a <;> (try simp only [decC, reduceCtorEq] at hd)
      case nilptr =>
        cases hd
        simp only [RelV] at h1; subst h1
        exact ⟨[_], us', rfl, by simp [RelC], h2⟩
      case iptr e' x' k =>
        cases k with
        | succ k => simp [decC] at hd
        | zero =>
          simp only [decC] at hd
          split at hd
          · rename_i he; subst he
            cases hd
            simp only [RelV] at h1
            obtain ⟨B, o, rfl, hB, us, hl, hrd, hrel⟩ := h1
            refine ⟨[_], us', rfl, ?_, h2⟩
            refine relC_mono (I := I) (withRows_base _ _) (.ptr e') (some x') _ ?_
            simp only [RelC]
            exact ⟨B, o, rfl, hB, us, hl, hrd, hrel⟩
          · cases hd
      case ptr b i k =>
        cases i with
        | succ i => simp [decC] at hd
        | zero =>
          cases k with
          | succ k => simp [decC] at hd
          | zero =>
            simp only [decC] at hd
            split at hd
            · rename_i l' hb
              split at hd
              · rename_i y m1 h1'
                cases hd
                simp only [RelV] at h1
                obtain ⟨p, hp, hk, rfl⟩ := h1
                obtain ⟨p', hp', _, hs, hn, _, cs, ty, hh, hsz, vs, hvl, hvr, hvrel, _⟩ := hc.rows b _ hb
                rw [hp] at hp'; cases hp'
                obtain ⟨u1, u2, rfl, hrel, hnil⟩ := ih l' vs _ [] _ hvrel h1'
                simp only [RelL] at hnil; subst hnil
                simp only [List.append_nil] at *
                have hcl := relC_len _ _ _ hrel
                refine ⟨[_], us', rfl, ?_, h2⟩
                simp only [RelC]
                refine ⟨p.B, p.O, by simp, .inr ⟨b, by simp, p, hp, hk, rfl⟩, u1, hcl, fun j hj => ?_, relC_mono (withRows_mono _ _ (by intro b hb; simp [hb]) _) _ _ _ hrel⟩
                rw [rdW_cells hh]; exact hvr j (by omega)
              · cases hd
            · cases hd
  | fnv f c ih =>
    intro l us x r m hr hd
    cases l with
    | nil => simp [decC] at hd
    | cons a l =>
      simp only [RelL] at hr; obtain ⟨u, us', rfl, h1, h2⟩ := hr
      cases a <;> (try simp only [decC, reduceCtorEq] at hd)
      rename_i f' cs
      split at hd
      · rename_i hf; subst hf
        split at hd
        · rename_i y m1 h1'
          cases hd
          simp only [RelV] at h1
          obtain ⟨vs, rfl, hvs⟩ := h1
          obtain ⟨u1, u2, rfl, hrel, hnil⟩ := ih cs vs _ [] _ hvs h1'
          simp only [RelL] at hnil; subst hnil
          simp only [List.append_nil] at *
          refine ⟨[_], us', rfl, ?_, h2⟩
          simp only [RelC]
          exact ⟨u1, rfl, hrel⟩
        · cases hd
      · cases hd

theorem decV_ok (hc : Ctx gb w I β H) {t : GT} {a : AV} {v : Value} {x : t.ty} {m : List Nat} (hr : RelV (rdW w) I β a v) (hd : decV H t a = some (x, m)) : TV (rdW w) (withRows I β m) t x v := by
  unfold decV at hd; unfold TV
  split at hd
  · rename_i ht
    rw [if_pos ht]
    split at hd
    · rename_i l
      split at hd
      · rename_i y m' hx
        cases hd
        simp only [RelV] at hr
        obtain ⟨us, rfl, hl, _⟩ := hr
        obtain ⟨u1, u2, rfl, hrel, hnil⟩ := decC_ok hc t l us _ _ _ hl hx
        simp only [RelL] at hnil; subst hnil
        exact ⟨u1, by simp, hrel⟩
      · cases hd
    · cases hd
  · rename_i ht
    rw [if_neg ht]
    split at hd
    · rename_i y m' hx
      cases hd
      obtain ⟨u1, u2, he, hrel, hnil⟩ := decC_ok hc t [a] [v] _ _ _ (by simp only [RelL]; exact ⟨v, [], rfl, hr, rfl⟩) hx
      simp only [RelL] at hnil; subst hnil
      simp only [List.append_nil] at he; subst he
      exact hrel
    · cases hd
end

theorem isAgg_enc {t : GT} (h : t.isAgg = false) (x : t.ty) : ∃ a, encC t x = [a] := by
  cases t <;> simp [GT.isAgg] at h
  case ptr e => cases x <;> exact ⟨_, rfl⟩
  all_goals exact ⟨_, rfl⟩

theorem tv_enc {rd : Nat → Nat → Option Value} {I : Nat → Prop} {β : Nat → Option Place} {t : GT} {x : t.ty} {v : Value} (h : TV rd I t x v) : RelV rd I β (enc t x) v := by
  unfold TV at h; unfold enc
  split at h
  · rename_i ht
    obtain ⟨us, rfl, hr⟩ := h
    rw [ht]
    simp only [RelV]
    exact ⟨us, rfl, relC_encC t x us hr, relC_plain t x us hr⟩
  · rename_i ht
    have ht' : t.isAgg = false := by simpa using ht
    obtain ⟨a, ha⟩ := isAgg_enc ht' x
    rw [ht', ha]
    have := relC_encC (β := β) t x [v] h
    rw [ha] at this
    simp only [RelL] at this
    obtain ⟨u, us', he, h1, _⟩ := this
    cases he
    exact h1

theorem tv_mono {rd rd' : Nat → Nat → Option Value} {I I' : Nat → Prop} (h : Mono rd I rd' I') {t : GT} {x : t.ty} {v : Value} (hv : TV rd I t x v) : TV rd' I' t x v := by
  unfold TV at hv ⊢
  split at hv
  · rename_i ht; rw [if_pos ht]; obtain ⟨us, rfl, hr⟩ := hv; exact ⟨us, rfl, relC_mono h t x us hr⟩
  · rename_i ht; rw [if_neg ht]; exact relC_mono h t x _ hv
end Go.AM
end
section
namespace Go.AM

/-- What is known of a type: its underlying description as far as it is used, its cells and bytes, its data. -/
inductive TD where
  | int (k : IntKind) | bool | str | iface | slice (e : TypeId) | struct (fs : List (Nat × TypeId)) | array (n : Nat) (e : TypeId) | pointer (e : TypeId) | other
def TD.agg : TD → Bool
  | .struct _ | .array _ _ => true
  | _ => false
structure TI where
  d : TD
  size : Nat
  bytes : Nat
  gt : Option GT

inductive Ex where
  | normal | exit (id : Nat) | ret
  deriving DecidableEq

/-- A parameter: data, a pointer to a variable that the call may write, a slice whose elements it may write. -/
inductive PK where
  | val (t : GT) | box (t : GT) | row (e : GT)
/-- Results: data, a new row, a pointer to a new variable, the first elements of a row that was given. -/
inductive RI where
  | val (t : GT) | row (e : GT) | box (t : GT) | view (j : Nat)
abbrev RK := List RI

@[reducible] def tys : List GT → Type
  | [] => Unit
  | t :: ts => t.ty × tys ts
@[reducible] def tysP : List PK → Type
  | [] => Unit
  | .val t :: ps => t.ty × tysP ps
  | .box t :: ps => t.ty × tysP ps
  | .row e :: ps => List e.ty × tysP ps
@[reducible] def tysO : List PK → Type
  | [] => Unit
  | .val _ :: ps => tysO ps
  | .box t :: ps => t.ty × tysO ps
  | .row e :: ps => List e.ty × tysO ps
@[reducible] def tysR : List RI → Type
  | [] => Unit
  | .val t :: r => t.ty × tysR r
  | .row e :: r => List e.ty × tysR r
  | .box t :: r => t.ty × tysR r
  | .view _ :: r => Nat × tysR r

/-- A function that is known: what it makes of data. -/
structure Callee where
  ps : List PK
  rk : RK
  g : tysP ps → Option (tysR rk × tysO ps)

/-- A loop that is known. -/
structure LoopO where
  f : (ρ : Type) → St → (Ex → St → Option ρ) → Option ρ

structure Tab where
  ti : TypeId → Option TI
  fn : FuncId → Option Callee
  lp : Nat → Option LoopO

def look {α : Type} : List (Nat × α) → Nat → Option α
  | [], _ => none
  | (k, a) :: r, n => if n = k then some a else look r n
def lookC : List (Nat × Callee) → Nat → Option Callee
  | [], _ => none
  | (k, a) :: r, n => if n = k then some a else lookC r n
def lookL : List (Nat × LoopO) → Nat → Option LoopO
  | [], _ => none
  | (k, a) :: r, n => if n = k then some a else lookL r n

mutual
def constV : Value → AV
  | .int k n => .int k n
  | .bool b => .bool b
  | .string s => .str s.data.toList
  | .pointer none => .nilptr
  | .slice none 0 0 => .nils
  | .agg ⟨l⟩ => if l.all (·.oneCell') then .agg (constL l) else .any
  | .tuple ⟨[]⟩ => .undef
  | .nilIface => .err false
  | _ => .any
def constL : List Value → List AV
  | [] => []
  | v :: l => constV v :: constL l
end

def St.ev (st : St) : Operand → AV
  | .tmp t => st.tmps.getD t .any
  | .const v => constV v
  | .func f => .fn f []
  | .global _ => .any

def grd {ρ : Type} (b : Bool) (k : Option ρ) : Option ρ := cond b k none

/-- The limit on what is made: no slice of more than 2^36 elements, no string of more than 2^60 bytes. -/
def maxN : Nat := 2 ^ 36
def maxS : Nat := 2 ^ 60

def AV.cellsOf : AV → List AV
  | .agg l => l
  | a => [a]
def AV.plain : AV → Bool
  | .any | .undef | .agg _ | .tup _ => false
  | _ => true
def AV.isA : AV → Bool
  | .agg _ => true
  | _ => false

section
variable {ρ : Type} (E : Tab)

/-- A part of an aggregate's cells. -/
def partA (i : TI) (l : List AV) (off : Nat) : Option AV :=
  if i.d.agg then
    if off + i.size ≤ l.length then some (.agg ((l.drop off).take i.size)) else none
  else match l[off]? with
    | some a => some a
    | none => none

def strLt : List UInt8 → List UInt8 → Bool := Op.bytesLess

def orI (k : IntKind) (a b : Int) : Int := k.wrap (BitVec.ofInt k.bits a ||| BitVec.ofInt k.bits b).toNat

/-- x == nil of an error. -/
def nilQ (op : BinOp) (d : TD) (x : AV) (K : AV → Option ρ) : Option ρ :=
  match op, d, x with
  | .eql, .iface, .err b => K (.bool !b)
  | .neq, .iface, .err b => K (.bool b)
  | _, _, _ => none

def binQ (op : BinOp) (x y : AV) (K : AV → Option ρ) : Option ρ :=
  match x, y with
  | .int k a, .int k' b =>
    if k = k' then
      match op with
      | .add => K (.int k (k.wrap (a + b)))
      | .or => K (.int k (orI k a b))
      | .sub => K (.int k (k.wrap (a - b)))
      | .mul => K (.int k (k.wrap (a * b)))
      | .quo => grd (b != 0) (K (.int k (k.wrap (a.tdiv b))))
      | .rem => grd (b != 0) (K (.int k (a.tmod b)))
      | .eql => K (.bool (a == b))
      | .neq => K (.bool (a != b))
      | .lss => K (.bool (decide (a < b)))
      | .leq => K (.bool (decide (a ≤ b)))
      | .gtr => K (.bool (decide (a > b)))
      | .geq => K (.bool (decide (a ≥ b)))
      | _ => none
    else none
  | .str a, .str b =>
    match op with
    | .add => grd (decide (a.length + b.length ≤ maxS)) (K (.str (a ++ b)))
    | .eql => K (.bool (a == b))
    | .neq => K (.bool (!(a == b)))
    | .lss => K (.bool (strLt a b))
    | .leq => K (.bool (strLt a b || a == b))
    | .gtr => K (.bool (!(strLt a b || a == b)))
    | .geq => K (.bool (!strLt a b))
    | _ => none
  | _, _ => none

/-- '==' of bools, and of pointers against nil, by the operands' type. -/
def eqR (d : TD) (x y : AV) : Option Bool :=
  match d, x, y with
  | .bool, .bool a, .bool b => some (a == b)
  | .pointer _, .nilptr, .nilptr => some true
  | .pointer _, .ptr .., .nilptr | .pointer _, .iptr .., .nilptr => some false
  | _, _, _ => none
def eqQ (op : BinOp) (d : TD) (x y : AV) (K : AV → Option ρ) : Option ρ :=
  match eqR d x y with
  | some r => match op with
    | .eql => K (.bool r)
    | .neq => K (.bool (!r))
    | _ => none
  | none => none

/-- The bounds of a slice expression over n elements. -/
def bnd (n : Nat) (lo hi : Option AV) (K : Option Int → Option Int → Option ρ) : Option ρ :=
  match lo, hi with
  | none, none => K none none
  | some (.int _ l), none => grd (decide (0 ≤ l) && decide (l ≤ n)) (K (some l) none)
  | none, some (.int _ h) => grd (decide (0 ≤ h) && decide (h ≤ n)) (K none (some h))
  | some (.int _ l), some (.int _ h) => grd (decide (0 ≤ l) && decide (l ≤ h) && decide (h ≤ n)) (K (some l) (some h))
  | _, _ => none

def cut {α : Type} (l : List α) : Option Int → Option Int → List α
  | none, none => l
  | some a, none => l.drop a.toNat
  | none, some b => l.take b.toNat
  | some a, some b => (l.take b.toNat).drop a.toNat

def Heap.len (H : Heap) (b : Nat) : Option Nat :=
  match H[b]? with
  | some (some (.typed _ l)) => some l.length
  | _ => none

def Heap.lenS (H : Heap) (s b : Nat) : Option Nat :=
  match H[b]? with
  | some (some (.typed e l)) => if e.cells = s then some l.length else none
  | _ => none

/-- x[lo:hi]; s: an element's cells -/
def sliceQ (H : Heap) (s : Nat) (x : AV) (lo hi : Option AV) (K : AV → Option ρ) : Option ρ :=
  match x with
  | .str t => bnd t.length lo hi fun l h => K (.str (cut t l h))
  | .nils => bnd 0 lo hi fun _ _ => K .nils
  | .sl e full l => if e.cells = s then bnd l.length lo hi fun a b => K (.sl e (match b with | none => full | some _ => false) (cut l a b)) else none
  | .vw b =>
    match H.lenS s b with
    | some n => bnd n lo hi fun a c =>
      match a, c with
      | none, none => K (.vw b)
      | none, some h => K (.pre b h.toNat)
      | some l, none => K (.sub b l.toNat (n - l.toNat))
      | some l, some h => K (.sub b l.toNat (h.toNat - l.toNat))
    | none => none
  | .pre b n =>
    match H.lenS s b with
    | some _ => bnd n lo hi fun a c =>
      match a, c with
      | none, none => K (.pre b n)
      | none, some h => K (.pre b h.toNat)
      | some l, none => K (.sub b l.toNat (n - l.toNat))
      | some l, some h => K (.sub b l.toNat (h.toNat - l.toNat))
    | none => none
  | .sub b off n =>
    match H.lenS s b with
    | some _ => bnd n lo hi fun a c =>
      match a, c with
      | none, none => K (.sub b off n)
      | none, some h => K (.sub b off h.toNat)
      | some l, none => K (.sub b (off + l.toNat) (n - l.toNat))
      | some l, some h => K (.sub b (off + l.toNat) (h.toNat - l.toNat))
    | none => none
  | _ => none

def lenQ (H : Heap) (x : AV) (K : AV → Option ρ) : Option ρ :=
  match x with
  | .sl _ _ l => K (.int .i64 l.length)
  | .nils => K (.int .i64 0)
  | .vw b => match H.len b with
    | some n => K (.int .i64 n)
    | none => none
  | .pre _ n => K (.int .i64 n)
  | .sub _ _ n => K (.int .i64 n)
  | _ => none

/-- &x[i] -/
def indexAddrQ (H : Heap) (s : Nat) (x : AV) (i : Int) (K : AV → Option ρ) : Option ρ :=
  match x with
  | .sl e _ l => if e.cells = s then grd (decide (0 ≤ i) && decide (i < l.length)) (K (.iptr e (l.getD i.toNat e.zero) 0)) else none
  | .vw b => match H.lenS s b with
    | some n => grd (decide (0 ≤ i) && decide (i < n)) (K (.ptr b i.toNat 0))
    | none => none
  | .pre b n => match H.lenS s b with
    | some _ => grd (decide (0 ≤ i) && decide (i < n)) (K (.ptr b i.toNat 0))
    | none => none
  | .sub b off n => match H.lenS s b with
    | some _ => grd (decide (0 ≤ i) && decide (i < n)) (K (.ptr b (off + i.toNat) 0))
    | none => none
  | _ => none

/-- A variable's cells at an address. -/
def Heap.at (H : Heap) : AV → Option (List AV × Nat)
  | .ptr b i k =>
    match H[b]? with
    | some (some (.cells l)) => if i = 0 then some (l, k) else none
    | some (some (.typed e l)) => some (encC e (l.getD i e.zero), k)
    | _ => none
  | .iptr e x k => some (encC e x, k)
  | _ => none
/-- The place is there. -/
def Heap.there (H : Heap) : AV → Bool
  | .ptr b i _ =>
    match H[b]? with
    | some (some (.typed _ l)) => decide (i < l.length)
    | _ => true
  | _ => true

def fillA (place : Nat → Option (Nat × Nat)) (cells : List AV) : List (Nat × AV) → Option (List AV)
  | [] => some cells
  | (i, v) :: rest =>
    match place i with
    | none => none
    | some (off, size) =>
      if v.plain || v.isA then
        if v.cellsOf.length = size ∧ off + size ≤ cells.length then
          fillA place (cells.take off ++ v.cellsOf ++ cells.drop (off + size)) rest
        else none
      else none

/-- The elements of a slice literal, in order, all given. -/
def elemsA (H : Heap) (e : GT) : Nat → List (Nat × AV) → Option (List e.ty)
  | _, [] => some []
  | n, (i, v) :: rest =>
    if i = n then
      match decV H e v with
      | some (x, []) =>
        match elemsA H e (n + 1) rest with
        | some l => some (x :: l)
        | none => none
      | _ => none
    else none

def scalar : GT → Bool
  | .int _ | .bool | .str | .err | .unit => true
  | .pair a b => scalar a && scalar b
  | _ => false

/-- The row that a value names. -/
def AV.row : AV → Option Nat
  | .ptr b _ _ | .vw b | .pre b _ | .sub b _ _ => some b
  | _ => none

/-- The arguments that are rows, in order. -/
def refsOf : List PK → List AV → List AV
  | .val _ :: ps, _ :: as => refsOf ps as
  | .box _ :: ps, a :: as | .row _ :: ps, a :: as => a :: refsOf ps as
  | _, _ => []

def idsOf : List AV → List Nat
  | [] => []
  | a :: as => match a.row with
    | some b => b :: idsOf as
    | none => idsOf as

def decArgs (H : Heap) : (ps : List PK) → List AV → Option (tysP ps × List Nat)
  | [], [] => some ((), [])
  | .val t :: ps, a :: as =>
    match decV H t a with
    | some (x, m) => match decArgs H ps as with
      | some (r, m') => some ((x, r), m ++ m')
      | none => none
    | none => none
  | .box t :: ps, .ptr b 0 0 :: as =>
    match H[b]? with
    | some (some (.cells l)) =>
      match decC [] t l with
      | some (x, [], _) => match decArgs H ps as with
        | some (r, m') => some ((x, r), m')
        | none => none
      | _ => none
    | _ => none
  | .row e :: ps, a :: as =>
    match decC H (.sl e) [a] with
    | some (l, [], [_]) => match decArgs H ps as with
      | some (r, m') => some ((l, r), m')
      | none => none
    | _ => none
  | _, _ => none

/-- The rows as a call leaves them. -/
def rowsOut : (ps : List PK) → tysO ps → Heap
  | [], _ => []
  | .val _ :: ps, o => rowsOut ps o
  | .box t :: ps, o => some (.cells (encC t o.1)) :: rowsOut ps o.2
  | .row e :: ps, o => some (.typed e o.1) :: rowsOut ps o.2

/-- A row of which a call has written the part that a names. -/
def wb1 (a : AV) (r0 : Option Row) (r : Row) : Row :=
  match r with
  | .cells l => .cells l
  | .typed e o => match a, r0 with
    | .pre _ n, some (.typed e' l) => if h : e' = e then .typed e (o ++ (h ▸ l : List e.ty).drop n) else .typed e o
    | .sub _ off n, some (.typed e' l) => if h : e' = e then .typed e ((h ▸ l : List e.ty).take off ++ o ++ (h ▸ l : List e.ty).drop (off + n)) else .typed e o
    | _, _ => .typed e o

/-- What a call has written goes back into the rows. -/
def writeBack : List AV → Heap → Heap → Heap
  | a :: as, some r :: rs, H => match a.row with
    | some b => writeBack as rs (H.set b (some (wb1 a (H[b]?.getD none) r)))
    | none => writeBack as rs H
  | _, _, H => H

/-- The values of arguments, as a function sees them. -/
def encVals : (ps : List PK) → tysP ps → Nat → List AV
  | [], _, _ => []
  | .val t :: ps, x, j => enc t x.1 :: encVals ps x.2 j
  | .box _ :: ps, x, j => .ptr j 0 0 :: encVals ps x.2 (j + 1)
  | .row _ :: ps, x, j => .vw j :: encVals ps x.2 (j + 1)
def rowsIn : (ps : List PK) → tysP ps → Heap
  | [], _ => []
  | .val _ :: ps, x => rowsIn ps x.2
  | .box t :: ps, x => some (.cells (encC t x.1)) :: rowsIn ps x.2
  | .row e :: ps, x => some (.typed e x.1) :: rowsIn ps x.2

def AV.whole : AV → Bool
  | .vw _ | .ptr _ 0 0 => true
  | _ => false

def RI.isVal : RI → Bool
  | .val _ => true
  | _ => false
def RI.scalar : RI → Bool
  | .val t => AM.scalar t
  | .row e => AM.scalar e
  | .box t => AM.scalar t
  | .view _ => true

/-- The new rows that results name. -/
def rowsNew : (rk : List RI) → tysR rk → List Row
  | [], _ => []
  | .val _ :: rk, y => rowsNew rk y.2
  | .row e :: rk, y => .typed e y.1 :: rowsNew rk y.2
  | .box t :: rk, y => .cells (encC t y.1) :: rowsNew rk y.2
  | .view _ :: rk, y => rowsNew rk y.2

def viewA (a : Option AV) (k : Nat) : AV :=
  match a with
  | some (.vw b) => .pre b k
  | _ => .any

/-- Results as the caller sees them; n: the first new row's number. -/
def resList : (rk : List RI) → tysR rk → Nat → List AV → List AV
  | [], _, _, _ => []
  | .val t :: rk, y, n, rs => enc t y.1 :: resList rk y.2 n rs
  | .row _ :: rk, y, n, rs => .vw n :: resList rk y.2 (n + 1) rs
  | .box _ :: rk, y, n, rs => .ptr n 0 0 :: resList rk y.2 (n + 1) rs
  | .view j :: rk, y, n, rs => viewA rs[j]? y.1 :: resList rk y.2 n rs
def tupV : List AV → AV
  | [] => .undef
  | [a] => a
  | l => .tup l

def killAll (m : List Nat) (H : Heap) : Heap := m.foldl (fun H b => H.set b none) H

def disj (a b : List Nat) : Bool := a.all fun x => !b.contains x
def nodupB : List Nat → Bool
  | [] => true
  | a :: l => !l.contains a && nodupB l

def PK.isVal : PK → Bool
  | .val _ => true
  | _ => false

/-- A call that changes no row: its arguments are data; rows among them are lent, if the results hold no address. -/
def callQ (H : Heap) (c : Callee) (as : List AV) (K : AV → Option ρ) : Option ρ :=
  match decArgs H c.ps as with
  | some (x, m) =>
    if c.ps.all PK.isVal && c.rk.all RI.isVal && (m.isEmpty || c.rk.all RI.scalar) then (c.g x).bind (fun r => K (tupV (resList c.rk r.1 0 []))) else none
  | none => none

def PK.scalarOut : PK → Bool
  | .val _ => true
  | .box t => scalar t
  | .row e => scalar e

def callE (H : Heap) (c : Callee) (as : List AV) (K : AV → Heap → Option ρ) : Option ρ :=
  match decArgs H c.ps as with
  | some (x, m) =>
    let rs := refsOf c.ps as
    let ids := idsOf rs
    if nodupB ids && disj ids m then
      if m.isEmpty || (c.rk.all RI.scalar && c.ps.all PK.scalarOut) then
        (c.g x).bind (fun r => K (tupV (resList c.rk r.1 H.length rs)) (writeBack rs (rowsOut c.ps r.2) H ++ (rowsNew c.rk r.1).map some))
      else (c.g x).bind (fun r => K (tupV (resList c.rk r.1 H.length rs)) (writeBack rs (rowsOut c.ps r.2) (killAll m H) ++ (rowsNew c.rk r.1).map some))
    else none
  | none => none

def maxA (a b : Int) : Int := if b > a then b else a
def minA (a b : Int) : Int := if b < a then b else a
def foldA (f : Int → Int → Int) (k : IntKind) : List AV → Option Int
  | [.int k' a] => if k' = k then some a else none
  | _ => none
def foldMM (f : Int → Int → Int) (k : IntKind) (a : Int) : List AV → Option Int
  | [] => some a
  | .int k' b :: r => if k' = k then foldMM f k (f a b) r else none
  | _ => none

/-- An operation that changes no row. -/
def opQ (st : St) (o : Oper) (K : AV → Option ρ) : Option ρ :=
  match o.op with
  | .move x | .assign x => K (st.ev x)
  | .pick c a b => match st.ev c with
    | .bool t => cond t (K (st.ev a)) (K (st.ev b))
    | _ => none
  | .nilCheck x => match st.ev x with
    | .ptr b i k => K (.ptr b i k)
    | .iptr e y k => K (.iptr e y k)
    | .fn f cs => K (.fn f cs)
    | _ => none
  | .binOp op xt x (.const .nilIface) _ => match E.ti xt with
    | some i => nilQ op i.d (st.ev x) K
    | none => none
  | .binOp op xt x y _ =>
    match st.ev x, st.ev y with
    | .int k a, .int k' b => binQ op (.int k a) (.int k' b) K
    | .str a, .str b => binQ op (.str a) (.str b) K
    | vx, vy => match E.ti xt with
      | some i => eqQ op i.d vx vy K
      | none => none
  | .unOp op _ x => match op, st.ev x with
    | .not, .bool b => K (.bool !b)
    | .neg, .int k n => K (.int k (k.wrap (0 - n)))
    | _, _ => none
  | .convert src dst x =>
    match E.ti src, E.ti dst with
    | some s, some d =>
      match s.d, d.d, st.ev x with
      | .int _, .int k, .int _ n => K (.int k (k.wrap n))
      | .str, .str, .str t => K (.str t)
      | .str, .slice e, .str t => match E.ti e with
        | some { d := .int .u8, .. } => K (.sl (.int .u8) false (t.map fun b => (b.toNat : Int)))
        | _ => none
      | .slice e, .str, v => match E.ti e with
        | some { d := .int .u8, .. } => match decC st.heap (.sl (.int .u8)) [v] with
          | some (l, [], _) => K (.str ((l : List Int).map fun n => UInt8.ofNat n.toNat))
          | _ => none
        | _ => none
      | _, _, _ => none
    | _, _ => none
  | .makeFunc (.func f) first captured => if first.isEmpty then K (.fn f (captured.toList.map st.ev)) else none
  | .slice t x lo hi mx =>
    match E.ti t, mx with
    | some { d := .str, .. }, none => match st.ev x with
      | .str s => sliceQ st.heap 0 (.str s) (lo.map st.ev) (hi.map st.ev) K
      | _ => none
    | some { d := .slice e, .. }, none => match st.ev x, E.ti e with
      | .str _, _ => none
      | v, some i => sliceQ st.heap i.size v (lo.map st.ev) (hi.map st.ev) K
      | _, none => none
    | _, _ => none
  | .fieldAddr s x f => match E.ti s with
    | some { d := .struct fs, .. } => match fs[f]? with
      | some (off, t) => match E.ti t with
        | some i => if i.size = 0 then none else match st.ev x with
          | .ptr b j k => K (.ptr b j (k + off))
          | .iptr e y k => K (.iptr e y (k + off))
          | _ => none
        | none => none
      | none => none
    | _ => none
  | .field s x f => match E.ti s with
    | some { d := .struct fs, .. } => match fs[f]?, st.ev x with
      | some (off, t), .agg l => match E.ti t with
        | some i => match partA i l off with
          | some a => K a
          | none => none
        | none => none
      | _, _ => none
    | _ => none
  | .indexAddr t x ix => match E.ti t, st.ev ix with
    | some { d := .slice e, .. }, .int _ i => match E.ti e with
      | some j => indexAddrQ st.heap j.size (st.ev x) i K
      | none => none
    | _, _ => none
  | .index t x ix => match E.ti t, st.ev x, st.ev ix with
    | some { d := .str, .. }, .str s, .int _ i => grd (decide (0 ≤ i) && decide (i < s.length)) (K (.int .u8 (s.getD i.toNat 0).toNat))
    | _, _, _ => none
  | .load t a => match E.ti t, st.heap.at (st.ev a) with
    | some i, some (l, k) => grd (st.heap.there (st.ev a)) (match partA i l k with
      | some v => K v
      | none => none)
    | _, _ => none
  | .extract x i => match st.ev x with
    | .tup l => match l[i]? with
      | some a => K a
      | none => none
    | _ => none
  | .build t parts => match E.ti t with
    | some { d := .struct fs, gt := some g, .. } => if fs.all (fun p => (E.ti p.2).isSome) then
      match fillA (fun i => (fs[i]?).bind fun p => (E.ti p.2).map fun i => (p.1, i.size)) (zeroC g) (parts.toList.map fun p => (p.1, st.ev p.2)) with
      | some l => K (.agg l)
      | none => none
      else none
    | _ => none
  | .buildSlice t len parts => match E.ti t with
    | some { d := .slice e, .. } => match E.ti e with
      | some { gt := some g, .. } => match elemsA st.heap g 0 (parts.toList.map fun p => (p.1, st.ev p.2)) with
        | some l => if l.length = len ∧ len * g.cells ≤ 2 ^ 24 then K (.sl g true l) else none
        | none => none
      | _ => none
    | _ => none
  | .call { callee := .builtin .len, args, argTypes } => match args.toList, argTypes.toList with
    | [x], [t] => match E.ti t with
      | some { d := .str, .. } => match st.ev x with
        | .str s => K (.int .i64 s.length)
        | _ => none
      | some { d := .slice _, .. } => lenQ st.heap (st.ev x) K
      | _ => none
    | _, _ => none
  | .call { callee := .builtin .max, args, .. } => match args.toList.map st.ev with
    | .int k a :: r => match foldMM maxA k a r with
      | some n => K (.int k n)
      | none => none
    | _ => none
  | .call { callee := .builtin .min, args, .. } => match args.toList.map st.ev with
    | .int k a :: r => match foldMM minA k a r with
      | some n => K (.int k n)
      | none => none
    | _ => none
  | .call { callee := .value f, args, .. } => match st.ev f with
    | .fn k caps => match E.fn k with
      | some c => callQ st.heap c (args.toList.map st.ev ++ caps) K
      | none => none
    | _ => none
  | _ => none

/-- append(s, x..): the rows behind it, the new row's number is the heap's length. -/
def appendE (H : Heap) (e : GT) (s : AV) (l' : List e.ty) (K : AV → Heap → Option ρ) : Option ρ :=
  match s with
  | .nils => grd (decide (l'.length ≤ maxN)) (K (.vw H.length) (H ++ [some (.typed e l')]))
  | .sl e' true l => if h : e' = e then
      cond (decide (0 < l'.length)) (grd (decide (l.length + l'.length ≤ maxN)) (K (.vw H.length) (H ++ [some (.typed e ((h ▸ l : List e.ty) ++ l'))]))) (K (.sl e' true l) H)
    else none
  | .vw b => match H[b]? with
    | some (some (.typed e' l)) => if h : e' = e then
        grd (decide (l.length + l'.length ≤ maxN)) (K (.vw H.length) (H.set b none ++ [some (.typed e ((h ▸ l : List e.ty) ++ l'))]))
      else none
    | _ => none
  | .pre b n => match H[b]? with
    | some (some (.typed e' l)) => if h : e' = e then
        grd (decide (n + l'.length ≤ maxN)) (K (.vw H.length) (H.set b none ++ [some (.typed e ((h ▸ l : List e.ty).take n ++ l'))]))
      else none
    | _ => none
  | _ => none

/-- An operation that changes rows. -/
def opE (st : St) (o : Oper) (K : AV → Heap → Option ρ) : Option ρ :=
  match o.op with
  | .alloc t => match E.ti t with
    | some { gt := some g, .. } => K (.ptr st.heap.length 0 0) (st.heap ++ [some (.cells (zeroC g))])
    | _ => none
  | .box t x => match E.ti t with
    | some i =>
      let v := st.ev x
      if v.plain || v.isA then
        if v.cellsOf.length = i.size then K (.ptr st.heap.length 0 0) (st.heap ++ [some (.cells v.cellsOf)]) else none
      else none
    | none => none
  | .store t a x => match E.ti t with
    | some i =>
      let v := st.ev x
      if v.plain || v.isA then
        if v.cellsOf.length = i.size then
          match st.ev a with
          | .ptr b j k => match st.heap[b]? with
            | some (some (.cells l)) => if j = 0 ∧ k + i.size ≤ l.length then K .undef (st.heap.set b (some (.cells (l.take k ++ v.cellsOf ++ l.drop (k + i.size))))) else none
            | some (some (.typed e l)) =>
              let cs := encC e (l.getD j e.zero)
              if k + i.size ≤ cs.length then
                match decC [] e (cs.take k ++ v.cellsOf ++ cs.drop (k + i.size)) with
                | some (y, [], _) => grd (decide (j < l.length)) (K .undef (st.heap.set b (some (.typed e (l.set j y)))))
                | _ => none
              else none
            | _ => none
          | _ => none
        else none
      else none
    | none => none
  | .makeSlice t l c => match E.ti t with
    | some { d := .slice e, .. } => match E.ti e with
      | some { gt := some g, bytes, .. } => match st.ev l, st.ev c with
        | .int _ a, .int _ b => if bytes ≤ 1024 then
            grd (decide (0 ≤ a) && decide (a ≤ b) && decide (b ≤ maxN)) (K (.vw st.heap.length) (st.heap ++ [some (.typed g (List.replicate a.toNat g.zero))]))
          else none
        | _, _ => none
      | _ => none
    | _ => none
  | .call { callee := .builtin .append, args, argTypes } => match args.toList, argTypes.toList with
    | [s, x], [ts, tx] => match E.ti ts, E.ti tx with
      | some { d := .slice e, .. }, some { d := .slice _, .. } => match E.ti e with
        | some { gt := some g, bytes, .. } => if bytes ≤ 1024 then
            match decC st.heap (.sl g) [st.ev x] with
            | some (l', [], _) => appendE st.heap g (st.ev s) l' K
            | _ => none
          else none
        | _ => none
      | _, _ => none
    | _, _ => none
  | .call { callee := .value f, args, .. } => match st.ev f with
    | .fn k caps => match E.fn k with
      | some c => callE st.heap c (args.toList.map st.ev ++ caps) K
      | none => none
    | _ => none
  | _ => none

/-- Which operations change rows; in a region that draws, no call does. -/
def Op.eff (dr : Bool) : Op → Bool
  | .alloc _ | .box .. | .store .. | .makeSlice .. => true
  | .call { callee := .builtin .append, .. } => true
  | .call { callee := .value _, .. } => !dr
  | _ => false

def opX (dr : Bool) (st : St) (o : Oper) (K : AV → Heap → Option ρ) : Option ρ :=
  if Op.eff dr o.op then opE E st o K else opQ E st o (fun v => K v st.heap)

/-- A region in the order of its text. -/
def stepOps (dr : Bool) (ops : Array Oper) : List Oper → St → (St → Option ρ) → Option ρ
  | [], st, K => K st
  | o :: r, st, K =>
    match o.guard with
    | none => opX E dr st o fun v H => stepOps dr ops r ({ st with heap := H }.put o.dst v) K
    | some (j, want) =>
      match (ops[j]?).bind (·.dst) with
      | none => none
      | some d =>
        match st.tmps[d]? with
        | some (.bool g) =>
          cond g
            (cond want (opX E dr (st.put (some d) (.bool true)) o fun v H => stepOps dr ops r ({ st.put (some d) (.bool true) with heap := H }.put o.dst v) K)
              (stepOps dr ops r ((st.put (some d) (.bool true)).put o.dst .undef) K))
            (cond want (stepOps dr ops r ((st.put (some d) (.bool false)).put o.dst .undef) K)
              (opX E dr (st.put (some d) (.bool false)) o fun v H => stepOps dr ops r ({ st.put (some d) (.bool false) with heap := H }.put o.dst v) K))
        | some .undef => stepOps dr ops r (st.put o.dst .undef) K
        | _ => none

/-- Operations that look at no row. -/
def heapFree : Op → Bool
  | .move _ | .assign _ | .pick .. | .nilCheck _ | .binOp .. | .unOp .. | .makeFunc .. | .fieldAddr .. | .field .. | .index .. | .extract .. | .build .. => true
  | .convert src _ _ => match E.ti src with
    | some { d := .slice _, .. } => false
    | _ => true
  | .slice t _ _ _ _ => match E.ti t with
    | some { d := .str, .. } => true
    | _ => false
  | .call { callee := .builtin .max, .. } | .call { callee := .builtin .min, .. } => true
  | _ => false

/-- Two operations of a region that must not change places. -/
def clash (ops : Array Oper) (x y : Oper) : Bool := !(x.apart ops y) || (Op.eff true x.op && !heapFree E y.op) || (Op.eff true y.op && !heapFree E x.op)

/-- For each operation those that come before it in every order, as bits. -/
def masks : List Oper → List Nat → List Nat
  | [], acc => acc
  | o :: r, acc => masks r (acc ++ [o.after.toList.foldl (fun s e => if Region.binds .any e then s ||| (2 ^ e.on ||| acc.getD e.on 0) else s) 0])

/-- Which regions that draw are taken: those whose orders all come to the same. -/
def drawOk (ops : Array Oper) : Bool :=
  let b := masks ops.toList []
  (List.range ops.size).all fun j =>
    match ops[j]? with
    | some y => y.after.toList.all (fun e => !Region.binds .any e || decide (e.on < j)) && (List.range j).all fun i =>
      match ops[i]? with
      | some x => !clash E ops x y || (b.getD j 0).testBit i
      | none => false
    | none => false

def putAll : List Nat → List AV → List AV → List AV
  | t :: ts, a :: as, l => putAll ts as (l.set t a)
  | _, _, l => l

/-- Which way a loop was left, of those that it has. -/
def Ex.same (a b : Ex) : Bool := decide (a = b)
def exK {ρ : Type} (x : Ex) : List Ex → (Ex → Option ρ) → Option ρ
  | [], _ => none
  | e :: es, k => cond (x.same e) (k e) (exK x es k)

/-- The state at a loop's head, as its annotation says: which slots, what lies in them, which of the rows were given to the function. -/
structure Ann where
  n : Nat
  slots : List Nat
  ps : List PK
  og : List Nat
  fz : List Nat

/-- Rows that nothing writes any more become data. -/
def frz : List Nat → St → St
  | [], st => st
  | t :: ts, st => match st.tmps.getD t .any with
    | .vw b => match st.heap[b]? with
      | some (some (.typed e l)) => frz ts ({ st with heap := st.heap.set b none }.put (some t) (.sl e false l))
      | _ => frz ts st
    | _ => frz ts st

/-- Empty slices that are to be written get rows of their own. -/
def liftRows : List Nat → List PK → St → St
  | t :: ts, .row e :: ps, st => match st.tmps.getD t .any with
    | .nils | .sl _ true [] => liftRows ts ps ({ st with heap := st.heap ++ [some (Row.typed e [])] }.put (some t) (.vw st.heap.length))
    | _ => liftRows ts ps st
  | _ :: ts, _ :: ps, st => liftRows ts ps st
  | _, _, st => st

def decSt (A : Ann) (st : St) : Option (tysP A.ps) :=
  let as := A.slots.map fun t => st.tmps.getD t .any
  match decArgs st.heap A.ps as with
  | some (x, m) =>
    let rs := refsOf A.ps as
    let ids := idsOf rs
    if st.tmps.length = A.n ∧ (rs.all AV.whole && nodupB ids && disj ids m && decide (st.orig = A.og.map fun i => ids.getD i st.heap.length)) = true then some x else none
  | none => none

def encSt (A : Ann) (x : tysP A.ps) : St := ⟨putAll A.slots (encVals A.ps x 0) (List.replicate A.n .any), rowsIn A.ps x, A.og⟩

def firstRegion : Code → Nat
  | .region id _ _ => id
  | .seq a b => match a with
    | .skip => firstRegion b
    | a => firstRegion a
  | .block _ a => firstRegion a
  | .loop a => firstRegion a
  | _ => 0

def run : Code → St → (Ex → St → Option ρ) → Option ρ
  | .skip, st, K => K .normal st
  | .region _ ops draw, st, K => if draw && !drawOk E ops then none else stepOps E draw ops ops.toList st (K .normal)
  | .seq a b, st, K => run a st fun ex st' => match ex with
    | .normal => run b st' K
    | e => K e st'
  | .cond c a b, st, K => match st.ev c with
    | .bool t => cond t (run a st K) (run b st K)
    | _ => none
  | .block id a, st, K => run a st fun ex st' => match ex with
    | .exit id' => if id' = id then K .normal st' else K (.exit id') st'
    | e => K e st'
  | .exit id, st, K => K (.exit id) st
  | .ret, st, K => K .ret st
  | .loop a, st, K => match E.lp (firstRegion a) with
    | some L => L.f ρ st K
    | none => none
  | _, _, _ => none
end
end Go.AM
end
section
namespace Go.AM
open Go.RowKit (Below)

/-- The world w' is w with new blocks. -/
structure Ext (w w' : World) : Prop where
  os : w'.os = w.os
  tape : w'.tape = w.tape
  output : w'.output = w.output
  size : w.heap.size ≤ w'.heap.size
  block : ∀ B, B < w.heap.size → w'.heap[B]? = w.heap[B]?

theorem Ext.refl (w : World) : Ext w w := ⟨rfl, rfl, rfl, Nat.le_refl _, fun _ _ => rfl⟩
theorem Ext.of_below {w w' : World} (h : Below w.heap.size w w') : Ext w w' := ⟨h.os, h.tape, h.output, h.size, h.block⟩
theorem Ext.alloc (w : World) (o : Obj) : Ext w (w.alloc o) := ⟨rfl, rfl, rfl, by simp, fun B h => Below.heap_alloc w o B h⟩
theorem Ext.drew (w : World) : Ext w w.drew := ⟨rfl, rfl, rfl, Nat.le_refl _, fun _ _ => rfl⟩
theorem Ext.trans {a b c : World} (h : Ext a b) (k : Ext b c) : Ext a c :=
  ⟨k.os.trans h.os, k.tape.trans h.tape, k.output.trans h.output, Nat.le_trans h.size k.size, fun B hB => (k.block B (Nat.lt_of_lt_of_le hB h.size)).trans (h.block B hB)⟩

theorem live_mono_heap {H H' : Heap} {β : Nat → Option Place} {B : Nat} (h : live H β B) (hh : ∀ (b : Nat) r, H[b]? = some (some r) → ∃ r', H'[b]? = some (some r')) : live H' β B := by
  obtain ⟨b, r, p, h1, h2⟩ := h
  obtain ⟨r', h'⟩ := hh b r h1
  exact ⟨b, r', p, h', h2⟩

theorem rowRel_mono {w w' : World} {I I' : Nat → Prop} {β β' : Nat → Option Place} {p : Place} (hm : Mono (rdW w) I (rdW w') I') (hb : ∀ b q, β b = some q → β' b = some q)
    (hw : p.backed = true → w'.heap[p.B]? = w.heap[p.B]?) : ∀ (r : Row), RowRel w I β p r → RowRel w' I' β' p r
  | .typed e l, h => by
    obtain ⟨h1, h2, h3, h4⟩ := h
    refine ⟨h1, h2, h3, fun hk => ?_⟩
    obtain ⟨cs, ty, a1, a2, a3⟩ := h4 hk
    refine ⟨cs, ty, (hw hk).trans a1, a2, fun i x hi => ?_⟩
    obtain ⟨us, b1, b2, b3⟩ := a3 i x hi
    exact ⟨us, b1, b2, relC_mono hm e x us b3⟩
  | .cells l, h => by
    obtain ⟨h1, h2, h3, cs, ty, a1, a2, us, a3, a4, a5, a6⟩ := h
    exact ⟨h1, h2, h3, cs, ty, (hw h3).trans a1, a2, us, a3, a4, relL_mono hm hb l us a5, a6⟩

/-- Data stay data when the world goes on and no block of I is written. -/
theorem mono_of {w w' : World} {I I' : Nat → Prop} (hi : ∀ B, I B → I' B) (hw : ∀ B, I B → w'.heap[B]? = w.heap[B]?) : Mono (rdW w) I (rdW w') I' :=
  ⟨hi, fun B hB o v h => by rw [rdW_congr (hw B hB)]; exact h⟩

theorem Frm.ext {Γ : Base} {w w' : World} (h : Frm Γ w) (he : Ext w w') : Frm Γ w' :=
  ⟨he.os.trans h.os, he.tape.trans h.tape, he.output.trans h.output, Nat.le_trans h.size he.size, fun B hB hl => (he.block B (Nat.lt_of_lt_of_le hB h.size)).trans (h.block B hB hl)⟩

theorem after_ext {Γ : Base} {w w' : World} {β : Nat → Option Place} {H : Heap} (he : Ext w w') {B : Nat} (h : Γ.after w β H B) : Γ.after w' β H B :=
  ⟨Nat.lt_of_lt_of_le h.1 he.size, h.2.1, h.2.2⟩

theorem mono_ext {Γ : Base} {w w' : World} {β : Nat → Option Place} {H : Heap} (he : Ext w w') : Mono (rdW w) (Γ.after w β H) (rdW w') (Γ.after w' β H) :=
  mono_of (fun _ h => after_ext he h) fun B h => he.block B h.1

theorem SameOut.congr {w w1 w2 : World} {p : Place} (h : SameOut w w1 p) (e : w2.heap[p.B]? = w1.heap[p.B]?) : SameOut w w2 p := by
  obtain ⟨cs, cs', ty, h1, h2, h3⟩ := h
  exact ⟨cs, cs', ty, h1, e.trans h2, h3⟩
theorem SameOut.trans {w w1 w2 : World} {p : Place} (h : SameOut w w1 p) (k : SameOut w1 w2 p) : SameOut w w2 p := by
  obtain ⟨cs, cs', ty, h1, h2, h3, h4⟩ := h
  obtain ⟨ds, ds', ty', k1, k2, k3, k4⟩ := k
  rw [h2] at k1; cases k1
  exact ⟨cs, ds', ty, h1, k2, k3.trans h3, fun o ho => (k4 o ho).trans (h4 o ho)⟩

theorem SimB.ext {Γ : Base} {st : St} {a : Act} {w w' : World} {β : Nat → Option Place} (h : SimB Γ st a w β) (he : Ext w w') : SimB Γ st a w' β := by
  refine ⟨⟨fun b r hb => ?_, h.ctx.apart, fun B hB => ⟨hB.1, hB.2.2⟩, h.ctx.dom⟩, h.frm.ext he, h.len, fun t x hx => ?_, h.defers, fun j b hb => ?_, h.gbw, h.low, h.own⟩
  · obtain ⟨p, hp, hg, hr⟩ := h.ctx.rows b r hb
    refine ⟨p, hp, fun hk => ⟨(hg hk).1, Nat.lt_of_lt_of_le (hg hk).2 he.size⟩, rowRel_mono (mono_ext he) (fun _ _ h => h) (fun hk => he.block _ (hg hk).2) r hr⟩
  · obtain ⟨v, hv, hr⟩ := h.tmps t x hx
    exact ⟨v, hv, relV_mono (mono_ext he) (fun _ _ h => h) x v hr⟩
  · obtain ⟨h1, h2, h3⟩ := h.orig j b hb
    refine ⟨h1, h2, fun r p hr hp hk => (h3 r p hr hp hk).congr (he.block _ ?_)⟩
    obtain ⟨q, hq, hg, _⟩ := h.ctx.rows b r hr
    rw [hp] at hq; cases hq
    exact (hg hk).2

theorem put_tmps (a : Act) (d : Option Tmp) (v : Value) : (a.put d v).tmps = match d with | some t => a.tmps.setIfInBounds t v | none => a.tmps := by
  cases d <;> rfl
theorem put_defers (a : Act) (d : Option Tmp) (v : Value) : (a.put d v).defers = a.defers := by cases d <;> rfl
theorem st_put_heap (st : St) (d : Option Tmp) (x : AV) : (st.put d x).heap = st.heap := by cases d <;> rfl
theorem st_put_orig (st : St) (d : Option Tmp) (x : AV) : (st.put d x).orig = st.orig := by cases d <;> rfl

theorem SimB.put {Γ : Base} {st : St} {a : Act} {w : World} {β : Nat → Option Place} (h : SimB Γ st a w β) (d : Option Tmp) {x : AV} {v : Value} (hv : RelV (rdW w) (Γ.after w β st.heap) β x v) :
    SimB Γ (st.put d x) (a.put d v) w β := by
  refine ⟨by rw [st_put_heap]; exact h.ctx, h.frm, ?_, fun t y hy => ?_, by rw [put_defers]; exact h.defers, by rw [st_put_heap, st_put_orig]; exact h.orig, h.gbw, h.low, by rw [st_put_heap]; exact h.own⟩
  · cases d <;> simp [St.put, Act.put, h.len]
  · rw [st_put_heap]
    cases d with
    | none => exact h.tmps t y hy
    | some d =>
      simp only [St.put, List.getElem?_set] at hy
      simp only [Act.put, Array.getElem?_setIfInBounds]
      by_cases ht : d = t
      · subst ht
        rw [if_pos rfl] at hy ⊢
        split at hy
        · rename_i hl
          cases hy
          rw [if_pos (by have := h.len; omega)]
          exact ⟨v, rfl, hv⟩
        · cases hy
      · rw [if_neg ht] at hy ⊢
        exact h.tmps t y hy

/-- A state with a new row: the row's block is new. -/
theorem sim_new {Γ : Base} {st : St} {a : Act} {w : World} {β : Nat → Option Place} (h : SimB Γ st a w β) {w' : World} (he : Ext w w') (r : Row) (p : Place)
    (hp : p.backed = true → w.heap.size ≤ p.B ∧ p.B < w'.heap.size)
    (hr : ∀ β', (∀ b q, β b = some q → β' b = some q) → Mono (rdW w) (Γ.after w β st.heap) (rdW w') (Γ.after w' β' (st.heap ++ [some r])) → RowRel w' (Γ.after w' β' (st.heap ++ [some r])) β' p r) :
    ∃ β', SimB Γ { st with heap := st.heap ++ [some r] } a w' β' ∧ β' st.heap.length = some p ∧ (∀ b q, β b = some q → β' b = some q) ∧
      Mono (rdW w) (Γ.after w β st.heap) (rdW w') (Γ.after w' β' (st.heap ++ [some r])) := by
  let β' : Nat → Option Place := fun b => if b = st.heap.length then some p else β b
  have hβ : ∀ b q, β b = some q → β' b = some q := by
    intro b q hq
    have : b ≠ st.heap.length := fun e => by rw [e, h.ctx.dom _ (Nat.le_refl _)] at hq; cases hq
    simp only [β', if_neg this]; exact hq
  have hnew : β' st.heap.length = some p := by simp [β']
  have hlive : ∀ B, live (st.heap ++ [some r]) β' B → live st.heap β B ∨ (p.backed = true ∧ p.B = B) := by
    rintro B ⟨b, r', q, hb, hq, hk, rfl⟩
    by_cases e : b = st.heap.length
    · subst e; rw [hnew] at hq; cases hq; exact .inr ⟨hk, rfl⟩
    · have hlt : b < st.heap.length := by
        rcases Nat.lt_or_ge b st.heap.length with h' | h'
        · exact h'
        · rw [List.getElem?_append_right h'] at hb
          cases hn : b - st.heap.length with
          | zero => omega
          | succ n => rw [hn] at hb; simp at hb
      rw [List.getElem?_append_left hlt] at hb
      simp only [β', if_neg e] at hq
      exact .inl ⟨b, r', q, hb, hq, hk, rfl⟩
  have himm : ∀ B, Γ.after w β st.heap B → Γ.after w' β' (st.heap ++ [some r]) B := fun B hB =>
    ⟨Nat.lt_of_lt_of_le hB.1 he.size, hB.2.1, fun hl => by
      rcases hlive B hl with h1 | ⟨h1, rfl⟩
      · exact hB.2.2 h1
      · have := (hp h1).1; have := hB.1; omega⟩
  have hmono : Mono (rdW w) (Γ.after w β st.heap) (rdW w') (Γ.after w' β' (st.heap ++ [some r])) := mono_of himm fun B hB => he.block B hB.1
  refine ⟨β', ⟨⟨fun b r' hb => ?_, fun b b' r1 r2 p1 p2 hb hb' h1 h2 k1 k2 hB => ?_, fun B hB => ⟨hB.1, hB.2.2⟩, fun b hb => ?_⟩, h.frm.ext he, h.len, fun t x hx => ?_, h.defers, fun j b hb => ?_, h.gbw, h.low, fun b r' q hb hq hk => ?_⟩, hnew, hβ, hmono⟩
  · by_cases e : b = st.heap.length
    · subst e
      rw [List.getElem?_append_right (Nat.le_refl _)] at hb
      simp at hb; subst hb
      exact ⟨p, hnew, fun hk => ⟨Nat.le_trans h.gbw (Nat.le_trans h.frm.size (hp hk).1), (hp hk).2⟩, hr β' hβ hmono⟩
    · have hlt : b < st.heap.length := by
        rcases Nat.lt_or_ge b st.heap.length with h' | h'
        · exact h'
        · rw [List.getElem?_append_right h'] at hb
          cases hn : b - st.heap.length with
          | zero => omega
          | succ n => rw [hn] at hb; simp at hb
      rw [List.getElem?_append_left hlt] at hb
      obtain ⟨q, hq, hg, hrr⟩ := h.ctx.rows b r' hb
      exact ⟨q, hβ b q hq, fun hk => ⟨(hg hk).1, Nat.lt_of_lt_of_le (hg hk).2 he.size⟩, rowRel_mono hmono hβ (fun hk => he.block _ (hg hk).2) r' hrr⟩
  · have key : ∀ (b : Nat) r1 p1, (st.heap ++ [some r])[b]? = some (some r1) → β' b = some p1 → p1.backed = true → (b = st.heap.length ∧ p1 = p) ∨ (b ≠ st.heap.length ∧ st.heap[b]? = some (some r1) ∧ β b = some p1 ∧ p1.B < w.heap.size) := by
      intro b r1 p1 hb h1 k1
      by_cases e : b = st.heap.length
      · subst e; rw [hnew] at h1; cases h1; exact .inl ⟨rfl, rfl⟩
      · have hlt : b < st.heap.length := by
          rcases Nat.lt_or_ge b st.heap.length with h' | h'
          · exact h'
          · rw [List.getElem?_append_right h'] at hb
            cases hn : b - st.heap.length with
            | zero => omega
            | succ n => rw [hn] at hb; simp at hb
        rw [List.getElem?_append_left hlt] at hb
        simp only [β', if_neg e] at h1
        obtain ⟨q, hq, hg, _⟩ := h.ctx.rows b r1 hb
        rw [h1] at hq; cases hq
        exact .inr ⟨e, hb, h1, (hg k1).2⟩
    rcases key b r1 p1 hb h1 k1 with ⟨e1, rfl⟩ | ⟨e1, c1, d1, l1⟩ <;> rcases key b' r2 p2 hb' h2 k2 with ⟨e2, rfl⟩ | ⟨e2, c2, d2, l2⟩
    · rw [e1, e2]
    · have := (hp k1).1; omega
    · have := (hp k2).1; omega
    · exact h.ctx.apart b b' r1 r2 p1 p2 c1 c2 d1 d2 k1 k2 hB
  · simp only [List.length_append, List.length_singleton] at hb
    simp only [β', if_neg (by omega : b ≠ st.heap.length)]
    exact h.ctx.dom b (by omega)
  · obtain ⟨v, hv, hrel⟩ := h.tmps t x hx
    exact ⟨v, hv, relV_mono hmono hβ x v hrel⟩
  · obtain ⟨h1, hlt, h3⟩ := h.orig j b hb
    have hbb : β' b = β b := by simp only [β', if_neg (by omega : b ≠ st.heap.length)]
    refine ⟨hbb.trans h1, by simp; omega, fun r' q hr' hq hk => ?_⟩
    rw [List.getElem?_append_left hlt] at hr'
    rw [hbb] at hq
    obtain ⟨q', hq', hg, _⟩ := h.ctx.rows b r' hr'
    rw [hq] at hq'; cases hq'
    exact (h3 r' q hr' hq hk).congr (he.block _ (hg hk).2)
  · by_cases e : b = st.heap.length
    · subst e; rw [hnew] at hq; cases hq; exact .inl (Nat.le_trans h.frm.size (hp hk).1)
    · have hlt : b < st.heap.length := by
        rcases Nat.lt_or_ge b st.heap.length with h' | h'
        · exact h'
        · rw [List.getElem?_append_right h'] at hb
          cases hn : b - st.heap.length with
          | zero => omega
          | succ n => rw [hn] at hb; simp at hb
      rw [List.getElem?_append_left hlt] at hb
      simp only [β', if_neg e] at hq
      exact h.own b r' q hb hq hk

/-- A row written: its block alone is written. -/
theorem sim_set {Γ : Base} {st : St} {a : Act} {w : World} {β : Nat → Option Place} (h : SimB Γ st a w β) {b : Nat} {r0 r : Row} (hb : st.heap[b]? = some (some r0)) {p : Place} (hp : β b = some p) (hk : p.backed = true) {w' : World}
    (h1 : w'.os = w.os) (h2 : w'.tape = w.tape) (h3 : w'.output = w.output) (h4 : w'.heap.size = w.heap.size) (h5 : ∀ B, B ≠ p.B → w'.heap[B]? = w.heap[B]?)
    (hout : SameOut w w' p) (hr : RowRel w' (Γ.after w' β (st.heap.set b (some r))) β p r) :
    SimB Γ { st with heap := st.heap.set b (some r) } a w' β := by
  have hbl : b < st.heap.length := (List.getElem?_eq_some_iff.1 hb).1
  have hget : ∀ (b' : Nat), (st.heap.set b (some r))[b']? = if b = b' then some (some r) else st.heap[b']? := by
    intro b'; rw [List.getElem?_set]; split <;> simp_all
  have hliveE : ∀ B, live (st.heap.set b (some r)) β B ↔ live st.heap β B := by
    intro B; constructor
    · rintro ⟨b', r', q, hb', hq⟩
      rw [hget] at hb'
      split at hb'
      · rename_i e; subst e; exact ⟨b, r0, q, hb, hq⟩
      · exact ⟨b', r', q, hb', hq⟩
    · rintro ⟨b', r', q, hb', hq⟩
      by_cases e : b = b'
      · subst e; exact ⟨b, r, q, by rw [hget, if_pos rfl], hq⟩
      · exact ⟨b', r', q, by rw [hget, if_neg e]; exact hb', hq⟩
  have himm : ∀ B, Γ.after w β st.heap B → Γ.after w' β (st.heap.set b (some r)) B := fun B hB =>
    ⟨by rw [h4]; exact hB.1, hB.2.1, fun hl => hB.2.2 ((hliveE B).1 hl)⟩
  have hlp : live st.heap β p.B := ⟨b, r0, p, hb, hp, hk, rfl⟩
  have hmono : Mono (rdW w) (Γ.after w β st.heap) (rdW w') (Γ.after w' β (st.heap.set b (some r))) :=
    mono_of himm fun B hB => h5 B fun e => hB.2.2 (e ▸ hlp)
  refine ⟨⟨fun b' r' hb' => ?_, fun b1 b2 r1 r2 p1 p2 hb1 hb2 hp1 hp2 k1 k2 hB => ?_, fun B hB => ⟨hB.1, hB.2.2⟩, fun b' hb' => h.ctx.dom b' (by simpa using hb')⟩, ?_, h.len, fun t x hx => ?_, h.defers, fun j b' hb' => ?_, h.gbw, h.low, fun b' r' q hb' hq hk' => ?_⟩
  · rw [hget] at hb'
    split at hb'
    · rename_i e; subst e
      cases hb'
      obtain ⟨q, hq, hg, _⟩ := h.ctx.rows b r0 hb
      rw [hp] at hq; cases hq
      exact ⟨p, hp, fun hk => by rw [h4]; exact hg hk, hr⟩
    · rename_i e
      obtain ⟨q, hq, hg, hrr⟩ := h.ctx.rows b' r' hb'
      exact ⟨q, hq, fun hk => by rw [h4]; exact hg hk, rowRel_mono hmono (fun _ _ h => h) (fun hk' => h5 _ fun eB => e (h.ctx.apart b b' r0 r' p q hb hb' hp hq hk hk' eB.symm)) r' hrr⟩
  · rw [hget] at hb1 hb2
    have g1 : ∃ r, st.heap[b1]? = some (some r) := by
      split at hb1
      · rename_i e; subst e; exact ⟨r0, hb⟩
      · exact ⟨_, hb1⟩
    have g2 : ∃ r, st.heap[b2]? = some (some r) := by
      split at hb2
      · rename_i e; subst e; exact ⟨r0, hb⟩
      · exact ⟨_, hb2⟩
    obtain ⟨_, g1⟩ := g1; obtain ⟨_, g2⟩ := g2
    exact h.ctx.apart b1 b2 _ _ p1 p2 g1 g2 hp1 hp2 k1 k2 hB
  · refine ⟨h1.trans h.frm.os, h2.trans h.frm.tape, h3.trans h.frm.output, by rw [h4]; exact h.frm.size, fun B hB hl => ?_⟩
    by_cases e : B = p.B
    · subst e
      rcases h.own b r0 p hb hp hk with h' | h'
      · omega
      · exact absurd h' hl
    · rw [h5 B e]; exact h.frm.block B hB hl
  · obtain ⟨v, hv, hrel⟩ := h.tmps t x hx
    exact ⟨v, hv, relV_mono hmono (fun _ _ h => h) x v hrel⟩
  · obtain ⟨g1, g2, g3⟩ := h.orig j b' hb'
    refine ⟨g1, by simpa using g2, fun r' q hr' hq hk' => ?_⟩
    rw [hget] at hr'
    split at hr'
    · rename_i e; subst e
      rw [hp] at hq; cases hq
      exact (g3 r0 p hb hp hk).trans hout
    · rename_i e
      exact (g3 r' q hr' hq hk').congr (h5 _ fun eB => e (h.ctx.apart b b' r0 r' p q hb hr' hp hq hk hk' eB.symm))
  · rw [hget] at hb'
    split at hb'
    · rename_i e; subst e; exact h.own b r0 q hb hq hk'
    · exact h.own b' r' q hb' hq hk'

/-- A row let go: nothing writes it any more. -/
theorem sim_kill {Γ : Base} {st : St} {a : Act} {w : World} {β : Nat → Option Place} (h : SimB Γ st a w β) (b : Nat) :
    SimB Γ { st with heap := st.heap.set b none } a w β ∧ Mono (rdW w) (withRows (Γ.after w β st.heap) β [b]) (rdW w) (Γ.after w β (st.heap.set b none)) ∨ (∀ r, st.heap[b]? ≠ some (some r)) := by
  by_cases hal : ∃ r, st.heap[b]? = some (some r)
  · obtain ⟨r0, hb⟩ := hal
    refine .inl ?_
    have hbl : b < st.heap.length := (List.getElem?_eq_some_iff.1 hb).1
    have hget : ∀ (b' : Nat) r, (st.heap.set b none)[b']? = some (some r) → b ≠ b' ∧ st.heap[b']? = some (some r) := by
      intro b' r hr
      rw [List.getElem?_set] at hr
      split at hr
      · cases hr
      · rename_i e; exact ⟨e, hr⟩
    have hlive : ∀ B, live (st.heap.set b none) β B → live st.heap β B := by
      rintro B ⟨b', r', q, hb', hq⟩
      exact ⟨b', r', q, (hget b' r' hb').2, hq⟩
    have himm : ∀ B, withRows (Γ.after w β st.heap) β [b] B → Γ.after w β (st.heap.set b none) B := by
      rintro B (hB | ⟨b', hb', p, hp, hk, rfl⟩)
      · exact ⟨hB.1, hB.2.1, fun hl => hB.2.2 (hlive B hl)⟩
      · simp at hb'; subst hb'
        obtain ⟨q, hq, hg, _⟩ := h.ctx.rows b' r0 hb
        rw [hp] at hq; cases hq
        refine ⟨(hg hk).2, ?_, ?_⟩
        · rcases h.own b' r0 p hb hp hk with h' | h'
          · exact .inr (.inr h')
          · exact .inr (.inl h')
        · rintro ⟨b2, r2, q, hb2, hq2, hk2, hB2⟩
          obtain ⟨e2, g2⟩ := hget b2 r2 hb2
          exact e2 (h.ctx.apart b' b2 r0 r2 p q hb g2 hp hq2 hk hk2 hB2.symm)
    have hmono : Mono (rdW w) (Γ.after w β st.heap) (rdW w) (Γ.after w β (st.heap.set b none)) := ⟨fun B hB => himm B (.inl hB), fun _ _ _ _ h => h⟩
    refine ⟨⟨⟨fun b' r' hb' => ?_, fun b1 b2 r1 r2 p1 p2 hb1 hb2 hp1 hp2 k1 k2 hB => ?_, fun B hB => ⟨hB.1, hB.2.2⟩, fun b' hb' => h.ctx.dom b' (by simpa using hb')⟩, h.frm, h.len, fun t x hx => ?_, h.defers, fun j b' hb' => ?_, h.gbw, h.low, fun b' r' q hb' hq hk' => ?_⟩, ⟨himm, fun _ _ _ _ h => h⟩⟩
    · obtain ⟨q, hq, hg, hrr⟩ := h.ctx.rows b' r' (hget b' r' hb').2
      exact ⟨q, hq, hg, rowRel_mono hmono (fun _ _ h => h) (fun _ => rfl) r' hrr⟩
    · exact h.ctx.apart b1 b2 _ _ p1 p2 (hget _ _ hb1).2 (hget _ _ hb2).2 hp1 hp2 k1 k2 hB
    · obtain ⟨v, hv, hrel⟩ := h.tmps t x hx
      exact ⟨v, hv, relV_mono hmono (fun _ _ h => h) x v hrel⟩
    · obtain ⟨g1, g2, g3⟩ := h.orig j b' hb'
      exact ⟨g1, by simpa using g2, fun r' q hr' hq hk' => g3 r' q (hget _ _ hr').2 hq hk'⟩
    · exact h.own b' r' q (hget _ _ hb').2 hq hk'
  · exact .inr fun r hr => hal ⟨r, hr⟩

/-- A row let go and its block taken over by a new row. -/
theorem sim_over {Γ : Base} {st : St} {a : Act} {w : World} {β : Nat → Option Place} (h : SimB Γ st a w β) {b : Nat} {r0 : Row} (hb : st.heap[b]? = some (some r0)) {p : Place} (hp : β b = some p) (hk : p.backed = true) {w' : World}
    (h1 : w'.os = w.os) (h2 : w'.tape = w.tape) (h3 : w'.output = w.output) (h4 : w'.heap.size = w.heap.size) (h5 : ∀ B, B ≠ p.B → w'.heap[B]? = w.heap[B]?)
    (r : Row) (p' : Place) (hk' : p'.backed = true) (hB' : p'.B = p.B)
    (hr : ∀ β', (∀ c q, β c = some q → β' c = some q) → Mono (rdW w) (Γ.after w β st.heap) (rdW w') (Γ.after w' β' (st.heap.set b none ++ [some r])) → RowRel w' (Γ.after w' β' (st.heap.set b none ++ [some r])) β' p' r) :
    ∃ β', SimB Γ { st with heap := st.heap.set b none ++ [some r] } a w' β' ∧ β' st.heap.length = some p' ∧ (∀ b q, β b = some q → β' b = some q) := by
  let β' : Nat → Option Place := fun c => if c = st.heap.length then some p' else β c
  have hbl : b < st.heap.length := (List.getElem?_eq_some_iff.1 hb).1
  have hβ : ∀ c q, β c = some q → β' c = some q := by
    intro c q hq
    have : c ≠ st.heap.length := fun e => by rw [e, h.ctx.dom _ (Nat.le_refl _)] at hq; cases hq
    simp only [β', if_neg this]; exact hq
  have hnew : β' st.heap.length = some p' := by simp [β']
  have key : ∀ (c : Nat) r1, (st.heap.set b none ++ [some r])[c]? = some (some r1) → (c = st.heap.length ∧ r1 = r) ∨ (c ≠ st.heap.length ∧ c ≠ b ∧ st.heap[c]? = some (some r1)) := by
    intro c r1 hc
    by_cases e : c = st.heap.length
    · subst e
      rw [List.getElem?_append_right (by simp)] at hc
      simp at hc; exact .inl ⟨rfl, hc.symm⟩
    · have hlt : c < st.heap.length := by
        rcases Nat.lt_or_ge c st.heap.length with h' | h'
        · exact h'
        · rw [List.getElem?_append_right (by simpa using h')] at hc
          cases hn : c - st.heap.length with
          | zero => omega
          | succ n => rw [List.length_set, hn] at hc; simp at hc
      rw [List.getElem?_append_left (by simpa using hlt), List.getElem?_set] at hc
      split at hc
      · cases hc
      · rename_i eb; exact .inr ⟨e, fun e' => eb e'.symm, hc⟩
  have keyp : ∀ (c : Nat) q, c ≠ st.heap.length → β' c = some q → β c = some q := by
    intro c q hc hq; simp only [β', if_neg hc] at hq; exact hq
  have hlp : live st.heap β p.B := ⟨b, r0, p, hb, hp, hk, rfl⟩
  have hlive : ∀ B, live (st.heap.set b none ++ [some r]) β' B → live st.heap β B := by
    rintro B ⟨c, r', q, hc, hq, hkq, rfl⟩
    rcases key c r' hc with ⟨rfl, rfl⟩ | ⟨e1, e2, hc'⟩
    · rw [hnew] at hq; cases hq; rw [hB']; exact hlp
    · exact ⟨c, r', q, hc', keyp c q e1 hq, hkq, rfl⟩
  have himm : ∀ B, Γ.after w β st.heap B → Γ.after w' β' (st.heap.set b none ++ [some r]) B := fun B hB =>
    ⟨by rw [h4]; exact hB.1, hB.2.1, fun hl => hB.2.2 (hlive B hl)⟩
  have hmono : Mono (rdW w) (Γ.after w β st.heap) (rdW w') (Γ.after w' β' (st.heap.set b none ++ [some r])) :=
    mono_of himm fun B hB => h5 B fun e => hB.2.2 (e ▸ hlp)
  have hother : ∀ (c : Nat) r1 q, c ≠ b → st.heap[c]? = some (some r1) → β c = some q → q.backed = true → q.B ≠ p.B := fun c r1 q e hc hq hkq eB => e (h.ctx.apart c b r1 r0 q p hc hb hq hp hkq hk eB)
  refine ⟨β', ⟨⟨fun c r' hc => ?_, fun c1 c2 r1 r2 p1 p2 hc1 hc2 hp1 hp2 k1 k2 hB => ?_, fun B hB => ⟨hB.1, hB.2.2⟩, fun c hc => ?_⟩, ?_, h.len, fun t x hx => ?_, h.defers, fun j c hc => ?_, h.gbw, h.low, fun c r' q hc hq hkq => ?_⟩, hnew, hβ⟩
  · rcases key c r' hc with ⟨rfl, rfl⟩ | ⟨e1, e2, hc'⟩
    · obtain ⟨q, hq, hg, _⟩ := h.ctx.rows b r0 hb
      rw [hp] at hq; cases hq
      exact ⟨p', hnew, fun _ => by rw [hB', h4]; exact hg hk, hr β' hβ hmono⟩
    · obtain ⟨q, hq, hg, hrr⟩ := h.ctx.rows c r' hc'
      exact ⟨q, hβ c q hq, fun hkq => by rw [h4]; exact hg hkq, rowRel_mono hmono hβ (fun hkq => h5 _ (hother c r' q e2 hc' hq hkq)) r' hrr⟩
  · rcases key c1 r1 hc1 with ⟨rfl, rfl⟩ | ⟨e1, e2, hc1'⟩ <;> rcases key c2 r2 hc2 with ⟨rfl, rfl⟩ | ⟨e3, e4, hc2'⟩
    · rfl
    · rw [hnew] at hp1; cases hp1
      exact absurd (hB.symm.trans hB') (hother c2 r2 p2 e4 hc2' (keyp c2 p2 e3 hp2) k2)
    · rw [hnew] at hp2; cases hp2
      exact absurd (hB.trans hB') (hother c1 r1 p1 e2 hc1' (keyp c1 p1 e1 hp1) k1)
    · exact h.ctx.apart c1 c2 r1 r2 p1 p2 hc1' hc2' (keyp c1 p1 e1 hp1) (keyp c2 p2 e3 hp2) k1 k2 hB
  · simp only [List.length_append, List.length_set, List.length_singleton] at hc
    simp only [β', if_neg (by omega : c ≠ st.heap.length)]
    exact h.ctx.dom c (by omega)
  · refine ⟨h1.trans h.frm.os, h2.trans h.frm.tape, h3.trans h.frm.output, by rw [h4]; exact h.frm.size, fun B hB hl => ?_⟩
    by_cases e : B = p.B
    · subst e
      rcases h.own b r0 p hb hp hk with h' | h'
      · omega
      · exact absurd h' hl
    · rw [h5 B e]; exact h.frm.block B hB hl
  · obtain ⟨v, hv, hrel⟩ := h.tmps t x hx
    exact ⟨v, hv, relV_mono hmono hβ x v hrel⟩
  · obtain ⟨g1, g2, g3⟩ := h.orig j c hc
    have hcc : β' c = β c := by simp only [β', if_neg (by omega : c ≠ st.heap.length)]
    refine ⟨hcc.trans g1, by simp; omega, fun r' q hr' hq hkq => ?_⟩
    rcases key c r' hr' with ⟨rfl, rfl⟩ | ⟨e1, e2, hc'⟩
    · omega
    · rw [hcc] at hq
      exact (g3 r' q hc' hq hkq).congr (h5 _ (hother c r' q e2 hc' hq hkq))
  · rcases key c r' hc with ⟨rfl, rfl⟩ | ⟨e1, e2, hc'⟩
    · rw [hnew] at hq; cases hq
      rw [hB']; exact h.own b r0 p hb hp hk
    · exact h.own c r' q hc' (keyp c q e1 hq) hkq
end Go.AM
end
section
namespace Go.AM
open Go.RowKit (Below)

def tdOf : TypeDesc → TD
  | .int k => .int k
  | .bool => .bool
  | .string => .str
  | .slice e => .slice e
  | .struct F => .struct (F.toList.map fun f => (f.offset, f.type))
  | .array n e => .array n e
  | .pointer e => .pointer e
  | .interface _ => .iface
  | _ => .other

def zeroVs : GT → List Value
  | .int k => [.int k 0]
  | .bool => [.bool false]
  | .str => [.string .empty]
  | .err => [.nilIface]
  | .sl _ => [.slice none 0 0]
  | .unit => []
  | .pair a b => zeroVs a ++ zeroVs b
  | .ptr _ => [.pointer none]
  | .fnv f c => [.func (.func f) #[] (zeroVs c).toArray]

def zeroVal (g : GT) : Value := if g.isAgg then .agg (zeroVs g).toArray else (zeroVs g).headD undef

structure TOk (P : Program) (t : TypeId) (i : TI) : Prop where
  und : (P.underlying t).map tdOf = some i.d
  inf : (P.info? t).map (fun j => (j.size, j.bytes)) = some (i.size, i.bytes)
  zero : ∀ g, i.gt = some g → (P.info? t).map (·.zero) = some (some (zeroVal g)) ∧ g.cells = i.size ∧ g.isAgg = i.d.agg

section
variable {P : Program} {t : TypeId} {i : TI}
theorem TOk.desc (h : TOk P t i) : ∃ d, P.underlying t = some d ∧ tdOf d = i.d := by
  have := h.und
  cases hu : P.underlying t with
  | none => rw [hu] at this; cases this
  | some d => rw [hu] at this; exact ⟨d, rfl, by simpa using this⟩
theorem TOk.int (h : TOk P t i) {k : IntKind} (hd : i.d = .int k) : P.underlying t = some (.int k) := by
  obtain ⟨d, hu, he⟩ := h.desc; rw [hd] at he; cases d <;> simp [tdOf] at he; rw [hu, he]
theorem TOk.bool (h : TOk P t i) (hd : i.d = .bool) : P.underlying t = some .bool := by
  obtain ⟨d, hu, he⟩ := h.desc; rw [hd] at he; cases d <;> simp [tdOf] at he; exact hu
theorem TOk.str (h : TOk P t i) (hd : i.d = .str) : P.underlying t = some .string := by
  obtain ⟨d, hu, he⟩ := h.desc; rw [hd] at he; cases d <;> simp [tdOf] at he; exact hu
theorem TOk.iface (h : TOk P t i) (hd : i.d = .iface) : ∃ ms, P.underlying t = some (.interface ms) := by
  obtain ⟨d, hu, he⟩ := h.desc; rw [hd] at he; cases d <;> simp [tdOf] at he; exact ⟨_, hu⟩
theorem TOk.slice (h : TOk P t i) {e : TypeId} (hd : i.d = .slice e) : P.underlying t = some (.slice e) := by
  obtain ⟨d, hu, he⟩ := h.desc; rw [hd] at he; cases d <;> simp [tdOf] at he; rw [hu, he]
theorem TOk.pointer (h : TOk P t i) {e : TypeId} (hd : i.d = .pointer e) : P.underlying t = some (.pointer e) := by
  obtain ⟨d, hu, he⟩ := h.desc; rw [hd] at he; cases d <;> simp [tdOf] at he; rw [hu, he]
theorem TOk.struct (h : TOk P t i) {fs : List (Nat × TypeId)} (hd : i.d = .struct fs) : ∃ F : Array Field, P.underlying t = some (.struct F) ∧ F.toList.map (fun f => (f.offset, f.type)) = fs := by
  obtain ⟨d, hu, he⟩ := h.desc; rw [hd] at he; cases d <;> simp [tdOf] at he; exact ⟨_, hu, by simpa using he⟩
theorem TOk.info (h : TOk P t i) : ∃ j, P.info? t = some j ∧ j.size = i.size ∧ j.bytes = i.bytes ∧ ∀ g, i.gt = some g → j.zero = some (zeroVal g) := by
  have := h.inf
  cases hj : P.info? t with
  | none => rw [hj] at this; cases this
  | some j =>
    rw [hj] at this
    simp at this
    exact ⟨j, rfl, this.1, this.2, fun g hg => by have := (h.zero g hg).1; rw [hj] at this; simpa using this⟩

theorem run_und {d : TypeDesc} (h : P.underlying t = some d) (w : World) : (underlying t).run P w = .ok d w := run_underlying h w
theorem TOk.run_size (h : TOk P t i) (w : World) : (sizeOf t).run P w = .ok i.size w := by
  obtain ⟨j, hj, hs, _⟩ := h.info
  simp [sizeOf, typeInfo, hj, hs]
theorem TOk.run_agg (h : TOk P t i) (w : World) : (isAgg t).run P w = .ok i.d.agg w := by
  obtain ⟨d, hu, he⟩ := h.desc
  unfold isAgg
  simp only [Sem.run_bind, run_und hu, Result.andThen_ok]
  rw [← he]
  cases d <;> rfl
theorem TOk.run_zero (h : TOk P t i) {g : GT} (hg : i.gt = some g) (w : World) : (zeroValue t).run P w = .ok (zeroVal g) w := by
  obtain ⟨j, hj, _, _, hz⟩ := h.info
  simp [zeroValue, typeInfo, hj, hz g hg]
end

theorem zeroVs_len : ∀ g : GT, (zeroVs g).length = g.cells
  | .int _ => rfl
  | .bool => rfl
  | .str => rfl
  | .err => rfl
  | .sl _ => rfl
  | .unit => rfl
  | .pair a b => by simp [zeroVs, GT.cells, zeroVs_len a, zeroVs_len b]
  | .ptr _ => rfl
  | .fnv _ _ => rfl
theorem zeroVs_plain : ∀ g : GT, ∀ v ∈ zeroVs g, v.oneCell' = true
  | .int _, v, h => by simp [zeroVs] at h; subst h; rfl
  | .bool, v, h => by simp [zeroVs] at h; subst h; rfl
  | .str, v, h => by simp [zeroVs] at h; subst h; rfl
  | .err, v, h => by simp [zeroVs] at h; subst h; rfl
  | .sl _, v, h => by simp [zeroVs] at h; subst h; rfl
  | .unit, v, h => by simp [zeroVs] at h
  | .pair a b, v, h => by
    simp only [zeroVs, List.mem_append] at h
    rcases h with h | h
    · exact zeroVs_plain a v h
    · exact zeroVs_plain b v h
  | .ptr _, v, h => by simp [zeroVs] at h; subst h; rfl
  | .fnv _ _, v, h => by simp [zeroVs] at h; subst h; rfl
theorem zeroVs_rel (rd : Nat → Nat → Option Value) (I : Nat → Prop) : ∀ g : GT, RelC rd I g g.zero (zeroVs g)
  | .int _ => by simp [RelC, zeroVs, GT.zero]
  | .bool => by simp [RelC, zeroVs, GT.zero]
  | .str => by simp [RelC, zeroVs, GT.zero]
  | .err => by simp [RelC, zeroVs, GT.zero]
  | .sl _ => by simp only [RelC, zeroVs, GT.zero]; exact ⟨none, 0, rfl, by simp, fun h => absurd rfl h⟩
  | .unit => by simp [RelC, zeroVs]
  | .pair a b => by simp only [RelC, zeroVs, GT.zero]; exact ⟨_, _, rfl, zeroVs_rel rd I a, zeroVs_rel rd I b⟩
  | .ptr _ => by simp [RelC, zeroVs, GT.zero]
  | .fnv f c => by simp only [RelC, zeroVs, GT.zero]; exact ⟨_, rfl, zeroVs_rel rd I c⟩
theorem zeroC_rel (rd : Nat → Nat → Option Value) (I : Nat → Prop) (β : Nat → Option Place) : ∀ g : GT, RelL rd I β (zeroC g) (zeroVs g)
  | .int k => relC_encC _ _ _ (zeroVs_rel rd I (.int k))
  | .bool => relC_encC _ _ _ (zeroVs_rel rd I .bool)
  | .str => relC_encC _ _ _ (zeroVs_rel rd I .str)
  | .err => relC_encC _ _ _ (zeroVs_rel rd I .err)
  | .sl e => by
    simp only [zeroC, zeroVs, RelL]
    exact ⟨_, [], rfl, by simp only [RelV]; exact ⟨zeroVs_rel rd I (.sl e), fun _ => ⟨none, rfl⟩⟩, rfl⟩
  | .unit => relC_encC _ _ _ (zeroVs_rel rd I .unit)
  | .pair a b => by simp only [zeroC, zeroVs]; exact relL_append (zeroC_rel rd I β a) (zeroC_rel rd I β b)
  | .ptr e => relC_encC _ _ _ (zeroVs_rel rd I (.ptr e))
  | .fnv f c => relC_encC _ _ _ (zeroVs_rel rd I (.fnv f c))

/-! ### Constants and operands -/
mutual
theorem constV_ok (rd : Nat → Nat → Option Value) (I : Nat → Prop) (β : Nat → Option Place) : ∀ v : Value, RelV rd I β (constV v) v
  | .int k n => by simp [constV, RelV]
  | .bool b => by simp [constV, RelV]
  | .string s => by simp [constV, RelV]
  | .pointer none => by simp [constV, RelV]
  | .pointer (some _) => by simp [constV, RelV]
  | .slice none 0 0 => by simp [constV, RelV]
  | .slice none 0 (c + 1) => by simp [constV, RelV]
  | .slice none (n + 1) c => by simp [constV, RelV]
  | .slice (some _) n c => by simp [constV, RelV]
  | .agg ⟨l⟩ => by
    unfold constV
    split
    · rename_i h
      simp only [RelV]
      exact ⟨l, rfl, constL_ok rd I β l, by simpa using h⟩
    · simp [RelV]
  | .tuple ⟨[]⟩ => by simp [constV, RelV, undef]
  | .tuple ⟨_ :: _⟩ => by simp [constV, RelV]
  | .float _ _ => by simp [constV, RelV]
  | .complex _ _ _ => by simp [constV, RelV]
  | .map _ => by simp [constV, RelV]
  | .chan _ => by simp [constV, RelV]
  | .func _ _ _ => by simp [constV, RelV]
  | .nilFunc => by simp [constV, RelV]
  | .iface _ _ => by simp [constV, RelV]
  | .nilIface => by simp [constV, RelV]
theorem constL_ok (rd : Nat → Nat → Option Value) (I : Nat → Prop) (β : Nat → Option Place) : ∀ l : List Value, RelL rd I β (constL l) l
  | [] => by simp [constL, RelL]
  | v :: l => by simp only [constL, RelL]; exact ⟨v, l, rfl, constV_ok rd I β v, constL_ok rd I β l⟩
end

theorem ev_ok {Γ : Base} {st : St} {a : Act} {w : World} {β : Nat → Option Place} (h : SimB Γ st a w β) (x : Operand) : RelV (rdW w) (Γ.after w β st.heap) β (st.ev x) (a.eval x) := by
  cases x with
  | tmp t =>
    simp only [St.ev, Act.eval]
    rw [List.getD_eq_getElem?_getD]
    cases hx : st.tmps[t]? with
    | none => simp [RelV]
    | some y =>
      obtain ⟨v, hv, hr⟩ := h.tmps t y hx
      simp only [Option.getD_some]
      rw [show a.tmps.getD t undef = v from by simp [Array.getD_eq_getD_getElem?, hv]]
      exact hr
  | const v => exact constV_ok _ _ _ v
  | func f => simp only [St.ev, Act.eval, RelV]; exact ⟨[], rfl, by simp [RelL]⟩
  | global g => simp [St.ev, RelV]

theorem evs_ok {Γ : Base} {st : St} {a : Act} {w : World} {β : Nat → Option Place} (h : SimB Γ st a w β) : ∀ l : List Operand, RelL (rdW w) (Γ.after w β st.heap) β (l.map st.ev) (l.map a.eval)
  | [] => by simp [RelL]
  | x :: l => by simp only [List.map_cons, RelL]; exact ⟨_, _, rfl, ev_ok h x, evs_ok h l⟩

/-! ### What an operation is shown to do -/
/-- Whatever frame and world fit 'st': the operation runs, and what it leaves fits x in its slot and the rows H. -/
def Con (P : Program) (Γ : Base) (st : St) (o : Oper) (x : AV) (H : Heap) : Prop :=
  ∀ a w β, SimB Γ st a w β → ∀ (next : Act → World → Prop) (Q : Exit → Act → World → Prop),
    (∀ v w', Sim Γ ({ st with heap := H }.put o.dst x) (a.put o.dst v) w' → next (a.put o.dst v) w') → o.wp P a w next Q

theorem con_value {P : Program} {Γ : Base} {st : St} {o : Oper} {x : AV} {H : Heap}
    (h : ∀ a w β, SimB Γ st a w β → ∃ v w', (execOp a.eval o).run P w = .ok (.value v) w' ∧ ∃ β', SimB Γ { st with heap := H } a w' β' ∧ RelV (rdW w') (Γ.after w' β' H) β' x v) : Con P Γ st o x H := by
  intro a w β hs next Q hn
  obtain ⟨v, w', hr, β', hs', hv⟩ := h a w β hs
  unfold Oper.wp
  rw [hr]
  exact hn v w' ⟨β', hs'.put o.dst hv⟩

/-- An operation that only computes. -/
theorem con_pure {P : Program} {Γ : Base} {st : St} {o : Oper} {x : AV}
    (h : ∀ a w β, SimB Γ st a w β → ∃ v, (execOp a.eval o).run P w = .ok (.value v) w ∧ RelV (rdW w) (Γ.after w β st.heap) β x v) : Con P Γ st o x st.heap :=
  con_value fun a w β hs => by
    obtain ⟨v, hr, hv⟩ := h a w β hs
    exact ⟨v, w, hr, β, hs, hv⟩

section
variable {P : Program} {Γ : Base} {st : St} {o : Oper}

theorem con_move {x : Operand} (h : o.op = .move x ∨ o.op = .assign x) : Con P Γ st o (st.ev x) st.heap :=
  con_pure fun a w β hs => ⟨a.eval x, by rcases h with h | h <;> simp [execOp, h], ev_ok hs x⟩

theorem con_pick {c x y : Operand} (h : o.op = .pick c x y) {t : Bool} (hc : st.ev c = .bool t) : Con P Γ st o (if t then st.ev x else st.ev y) st.heap :=
  con_pure fun a w β hs => by
    have := ev_ok hs c
    rw [hc] at this; simp only [RelV] at this
    refine ⟨if t then a.eval x else a.eval y, by simp [execOp, h, this, asBool], ?_⟩
    cases t
    · exact ev_ok hs y
    · exact ev_ok hs x

def toV : AV → Value
  | .int k n => .int k n
  | .bool b => .bool b
  | _ => undef

theorem con_int {op : BinOp} {xt yt : TypeId} {x y : Operand} (h : o.op = .binOp op xt x y yt) {k : IntKind} {p q : Int} (hx : st.ev x = .int k p) (hy : st.ev y = .int k q) {r : AV}
    (hv : ∀ rd I β, RelV rd I β r (toV r)) (hr : ∀ w, (Go.binOp op xt (.int k p) (.int k q)).run P w = .ok (toV r) w) : Con P Γ st o r st.heap :=
  con_pure fun a w β hs => by
    have h1 := ev_ok hs x; have h2 := ev_ok hs y
    rw [hx] at h1; rw [hy] at h2; simp only [RelV] at h1 h2
    refine ⟨toV r, ?_, hv _ _ _⟩
    simp only [execOp, h, h1, h2, Sem.run_bind]
    have hg : (eqGuard op xt x y (.int k p) (.int k q)).run P w = .ok () w := by
      unfold eqGuard
      cases op <;> rfl
    simp [hg, hr w]

theorem con_str {op : BinOp} {xt yt : TypeId} {x y : Operand} (h : o.op = .binOp op xt x y yt) {p q : List UInt8} (hx : st.ev x = .str p) (hy : st.ev y = .str q) {r : AV}
    (hr : ∀ s t : ByteArray, s.data.toList = p → t.data.toList = q → ∃ v, (∀ rd I β, RelV rd I β r v) ∧ ∀ w, (Op.stringOp op s t).run P w = .ok v w) : Con P Γ st o r st.heap :=
  con_pure fun a w β hs => by
    have h1 := ev_ok hs x; have h2 := ev_ok hs y
    rw [hx] at h1; rw [hy] at h2; simp only [RelV] at h1 h2
    obtain ⟨s, e1, e1'⟩ := h1
    obtain ⟨t, e2, e2'⟩ := h2
    obtain ⟨v, hv, hrun⟩ := hr s t e1' e2'
    refine ⟨v, ?_, hv _ _ _⟩
    simp only [execOp, h, e1, e2, Sem.run_bind]
    have hg : (eqGuard op xt x y (.string s) (.string t)).run P w = .ok () w := by
      unfold eqGuard
      cases op <;> rfl
    have hb : Go.binOp op xt (.string s) (.string t) = Op.stringOp op s t := by
      unfold Go.binOp
      cases op <;> rfl
    simp [hg, hb, hrun w]

theorem con_strB {op : BinOp} {xt yt : TypeId} {x y : Operand} (h : o.op = .binOp op xt x y yt) {p q : List UInt8} (hx : st.ev x = .str p) (hy : st.ev y = .str q) {b : Bool}
    (hr : ∀ s t : ByteArray, s.data.toList = p → t.data.toList = q → ∀ w, (Op.stringOp op s t).run P w = .ok (.bool b) w) : Con P Γ st o (.bool b) st.heap :=
  con_str h hx hy fun s t hs ht => ⟨.bool b, fun rd I β => by simp only [RelV], hr s t hs ht⟩

theorem toList_data (s : ByteArray) : s.toList = s.data.toList := ByteArray.toList_eq s
theorem size_data (s : ByteArray) : s.size = s.data.toList.length := by rw [Array.length_toList]; rfl

variable {ρ : Type} {z : ρ} {K : AV → Option ρ}

theorem grd_some {b : Bool} {k : Option ρ} (h : grd b k = some z) : b = true ∧ k = some z := by
  cases b <;> simp [grd] at h; exact ⟨rfl, h⟩

theorem binQ_int {op : BinOp} {xt yt : TypeId} {x y : Operand} (h : o.op = .binOp op xt x y yt) {k k' : IntKind} {p q : Int} (hx : st.ev x = .int k p) (hy : st.ev y = .int k' q)
    (hd : binQ op (.int k p) (.int k' q) K = some z) : ∃ x, K x = some z ∧ Con P Γ st o x st.heap := by
  simp only [binQ] at hd
  split at hd
  · rename_i hk; subst hk
    cases op <;> simp only [reduceCtorEq] at hd
    case add => exact ⟨_, hd, con_int h hx hy (by simp [RelV, toV]) fun w => by simp [Go.binOp, Op.intArith, toV]⟩
    case or => exact ⟨_, hd, con_int h hx hy (by simp [RelV, toV]) fun w => by simp [Go.binOp, Op.intBits, toV, orI]⟩
    case sub => exact ⟨_, hd, con_int h hx hy (by simp [RelV, toV]) fun w => by simp [Go.binOp, Op.intArith, toV]⟩
    case mul => exact ⟨_, hd, con_int h hx hy (by simp [RelV, toV]) fun w => by simp [Go.binOp, Op.intArith, toV]⟩
    case quo =>
      obtain ⟨hq, hd⟩ := grd_some hd
      exact ⟨_, hd, con_int h hx hy (by simp [RelV, toV]) fun w => by
        have : ¬ q = 0 := by simpa using hq
        simp [Go.binOp, Op.intDiv, this, toV]⟩
    case rem =>
      obtain ⟨hq, hd⟩ := grd_some hd
      exact ⟨_, hd, con_int h hx hy (by simp [RelV, toV]) fun w => by
        have : ¬ q = 0 := by simpa using hq
        simp [Go.binOp, Op.intDiv, this, toV]⟩
    case eql => exact ⟨_, hd, con_int h hx hy (by simp [RelV, toV]) fun w => by simp [Go.binOp, Op.intCmp, toV]⟩
    case neq => exact ⟨_, hd, con_int h hx hy (by simp [RelV, toV]) fun w => by simp [Go.binOp, Op.intCmp, toV]⟩
    case lss => exact ⟨_, hd, con_int h hx hy (by simp [RelV, toV]) fun w => by simp [Go.binOp, Op.intCmp, toV]⟩
    case leq => exact ⟨_, hd, con_int h hx hy (by simp [RelV, toV]) fun w => by simp [Go.binOp, Op.intCmp, toV]⟩
    case gtr => exact ⟨_, hd, con_int h hx hy (by simp [RelV, toV]) fun w => by simp [Go.binOp, Op.intCmp, toV]⟩
    case geq => exact ⟨_, hd, con_int h hx hy (by simp [RelV, toV]) fun w => by simp [Go.binOp, Op.intCmp, toV]⟩
  · cases hd

theorem binQ_str {op : BinOp} {xt yt : TypeId} {x y : Operand} (h : o.op = .binOp op xt x y yt) {p q : List UInt8} (hx : st.ev x = .str p) (hy : st.ev y = .str q)
    (hd : binQ op (.str p) (.str q) K = some z) : ∃ x, K x = some z ∧ Con P Γ st o x st.heap := by
  simp only [binQ] at hd
  cases op <;> simp only [reduceCtorEq] at hd
  case add =>
    obtain ⟨hq, hd⟩ := grd_some hd
    refine ⟨_, hd, con_str h hx hy fun s t hs ht => ⟨.string (s ++ t), ?_, fun w => ?_⟩⟩
    · intro rd I β
      simp only [RelV]
      exact ⟨_, rfl, by rw [← hs, ← ht]; simp⟩
    · have hq' : p.length + q.length ≤ maxS := by simpa using hq
      simp only [Op.stringOp]
      rw [if_neg]
      · simp
      · rw [size_data, size_data, hs, ht]
        unfold maxS at hq'
        show ¬ _ > IntKind.i64.max
        have : IntKind.i64.max = 9223372036854775807 := by decide
        omega
  all_goals exact ⟨_, hd, con_strB h hx hy fun s t hs ht w => by simp only [Op.stringOp, toList_data, hs, ht]; rfl⟩

theorem con_eq {op : BinOp} {xt yt : TypeId} {x y : Operand} (h : o.op = .binOp op xt x y yt) {r : Bool}
    (hr : ∀ a w β, SimB Γ st a w β → (∀ op, (eqGuard op xt x y (a.eval x) (a.eval y)).run P w = .ok () w) ∧ (Op.equal xt (a.eval x) (a.eval y)).run P w = .ok r w ∧
      Go.binOp .eql xt (a.eval x) (a.eval y) = (do pure (.bool (← Op.equal xt (a.eval x) (a.eval y)))) ∧ Go.binOp .neq xt (a.eval x) (a.eval y) = (do pure (.bool (!(← Op.equal xt (a.eval x) (a.eval y)))))) :
    (op = .eql → Con P Γ st o (.bool r) st.heap) ∧ (op = .neq → Con P Γ st o (.bool (!r)) st.heap) := by
  refine ⟨?_, ?_⟩
  · rintro rfl; refine con_pure fun a w β hs => ⟨.bool r, ?_, by simp only [RelV]⟩; obtain ⟨h1, h2, h3, h4⟩ := hr a w β hs; simp [execOp, h, h1, h2, h3]
  · rintro rfl; refine con_pure fun a w β hs => ⟨.bool !r, ?_, by simp only [RelV]⟩; obtain ⟨h1, h2, h3, h4⟩ := hr a w β hs; simp [execOp, h, h1, h2, h4]

theorem equal_bool {t : TypeId} (hu : P.underlying t = some .bool) (d : Nat) (a b : Bool) (w : World) : (Op.equalIn (d + 1) t (.bool a) (.bool b)).run P w = .ok (a == b) w := by
  simp [Op.equalIn, run_und hu]
theorem equal_nil {t e : TypeId} (hu : P.underlying t = some (.pointer e)) (d : Nat) (w : World) : (Op.equalIn (d + 1) t (.pointer none) (.pointer none)).run P w = .ok true w := by
  simp [Op.equalIn, run_und hu]
theorem equal_ptr {t e : TypeId} (hu : P.underlying t = some (.pointer e)) (d : Nat) (a : Addr) (w : World) : (Op.equalIn (d + 1) t (.pointer (some a)) (.pointer none)).run P w = .ok false w := by
  simp [Op.equalIn, run_und hu]

theorem equal_inil {t : TypeId} {ms : Array (String × TypeId)} (hu : P.underlying t = some (.interface ms)) (d : Nat) (w : World) : (Op.equalIn (d + 1) t .nilIface .nilIface).run P w = .ok true w := by
  simp [Op.equalIn, run_und hu]
theorem equal_iface {t : TypeId} {ms : Array (String × TypeId)} (hu : P.underlying t = some (.interface ms)) (d : Nat) (t' : TypeId) (v : Value) (w : World) : (Op.equalIn (d + 1) t (.iface t' v) .nilIface).run P w = .ok false w := by
  simp [Op.equalIn, run_und hu]

theorem eqR_ok {xt yt : TypeId} {x y : Operand} {op : BinOp} {i : TI} (ht : TOk P xt i) {r : Bool} (hd : eqR i.d (st.ev x) (st.ev y) = some r) : ∀ a w β, SimB Γ st a w β →
      (∀ op, (eqGuard op xt x y (a.eval x) (a.eval y)).run P w = .ok () w) ∧ (Op.equal xt (a.eval x) (a.eval y)).run P w = .ok r w ∧
      Go.binOp .eql xt (a.eval x) (a.eval y) = (do pure (.bool (← Op.equal xt (a.eval x) (a.eval y)))) ∧ Go.binOp .neq xt (a.eval x) (a.eval y) = (do pure (.bool (!(← Op.equal xt (a.eval x) (a.eval y))))) := by
  intro a w β hs
  have h1 := ev_ok hs x; have h2 := ev_ok hs y
  unfold eqR at hd
  split at hd
  · rename_i ed ex ey
    rw [ex] at h1; rw [ey] at h2; simp only [RelV] at h1 h2
    rw [h1, h2]
    cases hd
    exact ⟨fun op => by cases op <;> rfl, equal_bool (ht.bool ed) 9999 _ _ w, rfl, rfl⟩
  · rename_i ed ex ey
    rw [ex] at h1; rw [ey] at h2; simp only [RelV] at h1 h2
    rw [h1, h2]
    cases hd
    exact ⟨fun op => by cases op <;> rfl, equal_nil (ht.pointer ed) 9999 w, rfl, rfl⟩
  · rename_i ed ex ey
    rw [ex] at h1; rw [ey] at h2; simp only [RelV] at h1 h2
    obtain ⟨p, _, _, h1⟩ := h1
    rw [h1, h2]
    cases hd
    exact ⟨fun op => by cases op <;> rfl, equal_ptr (ht.pointer ed) 9999 _ w, rfl, rfl⟩
  · rename_i ed ex ey
    rw [ex] at h1; rw [ey] at h2; simp only [RelV] at h1 h2
    obtain ⟨B, o, h1, _⟩ := h1
    rw [h1, h2]
    cases hd
    exact ⟨fun op => by cases op <;> rfl, equal_ptr (ht.pointer ed) 9999 _ w, rfl, rfl⟩
  · cases hd

theorem nilQ_ok {op : BinOp} {xt yt : TypeId} {x : Operand} (h : o.op = .binOp op xt x (.const .nilIface) yt) {i : TI} (ht : TOk P xt i) (hd : nilQ op i.d (st.ev x) K = some z) :
    ∃ x, K x = some z ∧ Con P Γ st o x st.heap := by
  have key : ∀ b, st.ev x = .err b → i.d = .iface → ∀ a w β, SimB Γ st a w β → (∀ op, (eqGuard op xt x (.const .nilIface) (a.eval x) (a.eval (.const .nilIface))).run P w = .ok () w) ∧ (Op.equal xt (a.eval x) (a.eval (.const .nilIface))).run P w = .ok (!b) w ∧
      Go.binOp .eql xt (a.eval x) (a.eval (.const .nilIface)) = (do pure (.bool (← Op.equal xt (a.eval x) (a.eval (.const .nilIface))))) ∧ Go.binOp .neq xt (a.eval x) (a.eval (.const .nilIface)) = (do pure (.bool (!(← Op.equal xt (a.eval x) (a.eval (.const .nilIface)))))) := by
    intro b hx hdi a w β hs
    have h1 := ev_ok hs x
    rw [hx] at h1; simp only [RelV] at h1
    obtain ⟨ms, hu⟩ := ht.iface hdi
    have h2 : a.eval (.const .nilIface) = .nilIface := rfl
    rw [h2]
    cases b with
    | false =>
      rw [h1.1 rfl]
      exact ⟨fun op => by cases op <;> simp [eqGuard], equal_inil hu 9999 w, rfl, rfl⟩
    | true =>
      obtain ⟨t, v, e⟩ := h1.2 rfl
      rw [e]
      exact ⟨fun op => by cases op <;> rfl, equal_iface hu 9999 t v w, rfl, rfl⟩
  unfold nilQ at hd
  split at hd
  · rename_i ex b e1 e2
    exact ⟨_, hd, (con_eq (Γ := Γ) h (key _ e2 e1)).1 rfl⟩
  · rename_i ex b e1 e2
    have := (con_eq (Γ := Γ) h (key _ e2 e1)).2 rfl
    rw [Bool.not_not] at this
    exact ⟨_, hd, this⟩
  · cases hd

theorem eqQ_ok {op : BinOp} {xt yt : TypeId} {x y : Operand} (h : o.op = .binOp op xt x y yt) {i : TI} (ht : TOk P xt i) (hd : eqQ op i.d (st.ev x) (st.ev y) K = some z) :
    ∃ x, K x = some z ∧ Con P Γ st o x st.heap := by
  unfold eqQ at hd
  split at hd
  · rename_i r hr
    have := con_eq (Γ := Γ) h (eqR_ok (yt := yt) (op := op) ht hr)
    split at hd
    · exact ⟨_, hd, this.1 rfl⟩
    · exact ⟨_, hd, this.2 rfl⟩
    · cases hd
  · cases hd

theorem con_unop {op : UnOp} {xt : TypeId} {x : Operand} (h : o.op = .unOp op xt x) :
    (∀ b, op = .not → st.ev x = .bool b → Con P Γ st o (.bool !b) st.heap) ∧ (∀ k n, op = .neg → st.ev x = .int k n → Con P Γ st o (.int k (k.wrap (0 - n))) st.heap) := by
  refine ⟨fun b ho hx => con_pure fun a w β hs => ⟨.bool !b, ?_, by simp only [RelV]⟩, fun k n ho hx => con_pure fun a w β hs => ⟨.int k (k.wrap (0 - n)), ?_, by simp only [RelV]⟩⟩
  · have h1 := ev_ok hs x; rw [hx] at h1; simp only [RelV] at h1
    subst ho; simp [execOp, h, h1, Op.unary]
  · have h1 := ev_ok hs x; rw [hx] at h1; simp only [RelV] at h1
    subst ho; simp [execOp, h, h1, Op.unary, Op.intArith]

theorem add_plain (B o n : Nat) : (⟨B, o, none⟩ : Addr).add n = ⟨B, o + n, none⟩ := by
  unfold Addr.add; split <;> simp_all

theorem con_nilCheck {x : Operand} (h : o.op = .nilCheck x) (hx : (∃ b i k, st.ev x = .ptr b i k) ∨ (∃ e y k, st.ev x = .iptr e y k) ∨ ∃ f cs, st.ev x = .fn f cs) : Con P Γ st o (st.ev x) st.heap :=
  con_pure fun a w β hs => by
    have h1 := ev_ok hs x
    refine ⟨a.eval x, ?_, h1⟩
    rcases hx with ⟨b, i, k, hx⟩ | ⟨e, y, k, hx⟩ | ⟨f, cs, hx⟩ <;> rw [hx] at h1 <;> simp only [RelV] at h1
    · obtain ⟨p, _, _, h1⟩ := h1; simp [execOp, h, h1]
    · obtain ⟨B, o, h1, _⟩ := h1; simp [execOp, h, h1]
    · obtain ⟨us, h1, _⟩ := h1; simp [execOp, h, h1]

theorem con_makeFunc {f : FuncId} {first captured : Array Operand} (h : o.op = .makeFunc (.func f) first captured) (hf : first.isEmpty = true) : Con P Γ st o (.fn f (captured.toList.map st.ev)) st.heap :=
  con_pure fun a w β hs => by
    refine ⟨.func (.func f) #[] (captured.map a.eval), ?_, ?_⟩
    · have : first = #[] := by simpa using hf
      subst this
      simp [execOp, h, Instr.makeFunc]
    · simp only [RelV]
      exact ⟨captured.toList.map a.eval, by simp [← Array.toList_map], evs_ok hs _⟩

theorem con_extract {x : Operand} {n : Nat} (h : o.op = .extract x n) {l : List AV} {y : AV} (hx : st.ev x = .tup l) (hl : l[n]? = some y) : Con P Γ st o y st.heap :=
  con_pure fun a w β hs => by
    have h1 := ev_ok hs x
    rw [hx] at h1; simp only [RelV] at h1
    obtain ⟨us, h1, h2⟩ := h1
    obtain ⟨v, hv, hr⟩ := relL_get _ _ h2 n y hl
    refine ⟨v, ?_, hr⟩
    simp [execOp, h, h1, Instr.extract, hv]
end
end Go.AM
end
section
namespace Go.AM
open Go.RowKit (Below)
section
variable {P : Program} {Γ : Base} {st : St} {o : Oper} {ρ : Type} {z : ρ} {K : AV → Option ρ}

/-- An operation that runs s and leaves the world as it was. -/
theorem con_exec (s : (Operand → Value) → Sem Value) (he : ∀ ev : Operand → Value, execOp ev o = (do pure (.value (← s ev)))) (x : AV) (h : ∀ a w β, SimB Γ st a w β → ∃ v, (s a.eval).run P w = .ok v w ∧ RelV (rdW w) (Γ.after w β st.heap) β x v) : Con P Γ st o x st.heap :=
  con_pure fun a w β hs => by
    obtain ⟨v, h2, hv⟩ := h a w β hs
    exact ⟨v, by rw [he]; simp [h2], hv⟩

theorem lenS_some {H : Heap} {s b n : Nat} (h : H.lenS s b = some n) : ∃ e l, H[b]? = some (some (.typed e l)) ∧ e.cells = s ∧ l.length = n := by
  unfold Heap.lenS at h
  split at h
  · rename_i e l hb
    split at h
    · rename_i he; cases h; exact ⟨e, l, hb, he, rfl⟩
    · cases h
  · cases h

/-- v is the slice of the elements off .. off + n of the row at p. -/
def ViewRel (p : Place) (off n : Nat) (v : Value) : Prop :=
  off + n ≤ p.n ∧ ∃ (a : Option Addr) (c : Nat), v = .slice a n c ∧ n ≤ c ∧ p.n ≤ off + c ∧ (c = 0 ∨ (p.backed = true ∧ a = some ⟨p.B, p.O + off * p.s, none⟩ ∧ p.O + (off + c) * p.s ≤ p.z))

theorem rel_vw {rd : Nat → Nat → Option Value} {I : Nat → Prop} {β : Nat → Option Place} {b : Nat} {v : Value} : RelV rd I β (.vw b) v ↔ ∃ p, β b = some p ∧ ViewRel p 0 p.n v := by
  simp only [RelV, ViewRel]
  constructor
  · rintro ⟨p, hp, a, c, rfl, h1, h2⟩; exact ⟨p, hp, by omega, a, c, rfl, h1, by omega, by simpa using h2⟩
  · rintro ⟨p, hp, _, a, c, rfl, h1, _, h2⟩; exact ⟨p, hp, a, c, rfl, h1, by simpa using h2⟩
theorem rel_pre {rd : Nat → Nat → Option Value} {I : Nat → Prop} {β : Nat → Option Place} {b n : Nat} {v : Value} : RelV rd I β (.pre b n) v ↔ ∃ p, β b = some p ∧ ViewRel p 0 n v := by
  simp only [RelV, ViewRel]
  constructor
  · rintro ⟨p, hp, h0, a, c, rfl, h1, h2⟩; exact ⟨p, hp, by omega, a, c, rfl, by omega, by omega, by simpa using h2⟩
  · rintro ⟨p, hp, h0, a, c, rfl, h1, h3, h2⟩; exact ⟨p, hp, by omega, a, c, rfl, by omega, by simpa using h2⟩
theorem rel_sub {rd : Nat → Nat → Option Value} {I : Nat → Prop} {β : Nat → Option Place} {b off n : Nat} {v : Value} : RelV rd I β (.sub b off n) v ↔ ∃ p, β b = some p ∧ ViewRel p off n v := by
  simp only [RelV, ViewRel]
  constructor
  · rintro ⟨p, hp, h0, a, c, rfl, h1, h2⟩; exact ⟨p, hp, by omega, a, c, rfl, by omega, by omega, h2⟩
  · rintro ⟨p, hp, h0, a, c, rfl, h1, h3, h2⟩; exact ⟨p, hp, by omega, a, c, rfl, by omega, h2⟩

/-- The row at p, as its type says. -/
theorem row_place {gb : Nat} {w : World} {I : Nat → Prop} {β : Nat → Option Place} {H : Heap} (hc : Ctx gb w I β H) {s b n : Nat} (h : H.lenS s b = some n) {p : Place} (hp : β b = some p) : p.s = s ∧ p.n = n := by
  obtain ⟨e, l, hb, h1, h2⟩ := lenS_some h
  obtain ⟨e1, e2, _⟩ := typed_len hc hb hp
  exact ⟨e2.trans h1, e1.trans h2⟩

/-! ### x[i] -/
theorem con_indexAddr {t e : TypeId} {x ix : Operand} (h : o.op = .indexAddr t x ix) {i j : TI} (ht : TOk P t i) (hd : i.d = .slice e) (hj : TOk P e j) {k : IntKind} {n : Int} (hix : st.ev ix = .int k n)
    (hq : indexAddrQ st.heap j.size (st.ev x) n K = some z) : ∃ y, K y = some z ∧ Con P Γ st o y st.heap := by
  have run1 : ∀ (a : Act) (w : World) (β : Nat → Option Place) (ad : Option Addr) (len cap : Nat), SimB Γ st a w β → a.eval x = .slice ad len cap → 0 ≤ n → n < (len : Int) → ∀ ad', ad = some ad' →
      (Instr.indexAt t (a.eval x) (a.eval ix)).run P w = .ok (.pointer (some (ad'.add (n.toNat * j.size)))) w := by
    intro a w β ad len cap hs hx h0 h1 ad' he
    have h2 := ev_ok hs ix
    rw [hix] at h2; simp only [RelV] at h2
    rw [hx, h2, he]
    unfold Instr.indexAt
    simp [asIntOf, run_und (ht.slice hd), h0, h1, hj.run_size]
  have view : ∀ (b off m n' : Nat) (a : Act) (w : World) (β : Nat → Option Place), SimB Γ st a w β → st.heap.lenS j.size b = some n' → ∀ p, β b = some p → ViewRel p off m (a.eval x) → 0 ≤ n → n < (m : Int) →
      ∃ v, (Instr.indexAt t (a.eval x) (a.eval ix)).run P w = .ok v w ∧ RelV (rdW w) (Γ.after w β st.heap) β (.ptr b (off + n.toNat) 0) v := by
    intro b off m n' a w β hs hl p hp hv h0 hn
    obtain ⟨_, ad, c, hxv, hc, _, hz⟩ := hv
    obtain ⟨hps, hpn⟩ := row_place hs.ctx hl hp
    rcases hz with hz | ⟨hk, rfl, _⟩
    · omega
    · refine ⟨_, run1 a w β _ _ _ hs hxv h0 hn _ rfl, ?_⟩
      simp only [RelV]
      refine ⟨p, hp, hk, ?_⟩
      rw [add_plain, ← hps, Nat.add_mul]
      simp only [Nat.add_zero, Nat.add_assoc]
  unfold indexAddrQ at hq
  split at hq
  · rename_i e' full l hx
    split at hq
    · rename_i hc
      obtain ⟨hb, hq⟩ := grd_some hq
      simp only [Bool.and_eq_true, decide_eq_true_eq] at hb
      refine ⟨_, hq, con_exec (fun ev => Instr.indexAt t (ev x) (ev ix)) (fun _ => by simp only [execOp, h]) _ fun a w β hs => ?_⟩
      have h1 := ev_ok hs x
      rw [hx] at h1; simp only [RelV] at h1
      have h1 := h1.1
      simp only [RelC] at h1
      obtain ⟨ad, c, he, hcap, hread⟩ := h1
      have hxv : a.eval x = .slice ad l.length c := by simpa using he
      have hne : l ≠ [] := by intro e0; subst e0; simp at hb; omega
      obtain ⟨B, o', rfl, hB, hrd⟩ := hread hne
      refine ⟨_, run1 a w β _ _ _ hs hxv hb.1 hb.2 _ rfl, ?_⟩
      have hlt : n.toNat < l.length := by omega
      obtain ⟨us, hl, hr1, hr2⟩ := hrd n.toNat (l[n.toNat]) (List.getElem?_eq_getElem hlt)
      simp only [RelV]
      refine ⟨B, o' + n.toNat * e'.cells, by rw [add_plain, hc]; rfl, hB, us, hl, hr1, ?_⟩
      rw [List.getD_eq_getElem?_getD, List.getElem?_eq_getElem hlt]
      exact hr2
    · cases hq
  · rename_i b hx
    split at hq
    case h_2 => cases hq
    rename_i m hm
    obtain ⟨hb, hq⟩ := grd_some hq
    simp only [Bool.and_eq_true, decide_eq_true_eq] at hb
    refine ⟨_, hq, con_exec (fun ev => Instr.indexAt t (ev x) (ev ix)) (fun _ => by simp only [execOp, h]) _ fun a w β hs => ?_⟩
    have h1 := ev_ok hs x
    rw [hx, rel_vw] at h1
    obtain ⟨p, hp, h1⟩ := h1
    obtain ⟨hps, hpn⟩ := row_place hs.ctx hm hp
    have := view b 0 p.n m a w β hs hm p hp h1 hb.1 (by omega)
    rwa [Nat.zero_add] at this
  · rename_i b m hx
    split at hq
    case h_2 => cases hq
    rename_i n' hm
    obtain ⟨hb, hq⟩ := grd_some hq
    simp only [Bool.and_eq_true, decide_eq_true_eq] at hb
    refine ⟨_, hq, con_exec (fun ev => Instr.indexAt t (ev x) (ev ix)) (fun _ => by simp only [execOp, h]) _ fun a w β hs => ?_⟩
    have h1 := ev_ok hs x
    rw [hx, rel_pre] at h1
    obtain ⟨p, hp, h1⟩ := h1
    have := view b 0 m n' a w β hs hm p hp h1 hb.1 hb.2
    rwa [Nat.zero_add] at this
  · rename_i b off m hx
    split at hq
    case h_2 => cases hq
    rename_i n' hm
    obtain ⟨hb, hq⟩ := grd_some hq
    simp only [Bool.and_eq_true, decide_eq_true_eq] at hb
    refine ⟨_, hq, con_exec (fun ev => Instr.indexAt t (ev x) (ev ix)) (fun _ => by simp only [execOp, h]) _ fun a w β hs => ?_⟩
    have h1 := ev_ok hs x
    rw [hx, rel_sub] at h1
    obtain ⟨p, hp, h1⟩ := h1
    exact view b off m n' a w β hs hm p hp h1 hb.1 hb.2
  · cases hq

/-! ### &x.f, *x, x.f -/
theorem field_get {F : Array Field} {fs : List (Nat × TypeId)} (h : F.toList.map (fun f => (f.offset, f.type)) = fs) {n off : Nat} {ft : TypeId} (hf : fs[n]? = some (off, ft)) : ∃ f : Field, F[n]? = some f ∧ f.offset = off ∧ f.type = ft := by
  subst h
  rw [List.getElem?_map] at hf
  cases hx : F.toList[n]? with
  | none => rw [hx] at hf; cases hf
  | some f =>
    rw [hx] at hf
    simp at hf
    exact ⟨f, by simpa using hx, hf.1, hf.2⟩

theorem con_fieldAddr {t ft : TypeId} {x : Operand} {n off : Nat} (h : o.op = .fieldAddr t x n) {i j : TI} (ht : TOk P t i) {fs : List (Nat × TypeId)} (hd : i.d = .struct fs) (hf : fs[n]? = some (off, ft)) (hj : TOk P ft j) (hz : j.size ≠ 0) :
    (∀ b i k, st.ev x = .ptr b i k → Con P Γ st o (.ptr b i (k + off)) st.heap) ∧ (∀ e y k, st.ev x = .iptr e y k → Con P Γ st o (.iptr e y (k + off)) st.heap) := by
  obtain ⟨F, hu, hF⟩ := ht.struct hd
  obtain ⟨f, hf1, hf2, hf3⟩ := field_get hF hf
  have run : ∀ (w : World) (B p : Nat), (Instr.fieldAt t (.pointer (some ⟨B, p, none⟩)) n).run P w = .ok (.pointer (some ⟨B, p + off, none⟩)) w := by
    intro w B p
    unfold Instr.fieldAt
    simp [run_und hu, hf1, Instr.sureAddr, fieldPlace, hf3, hj.run_size, hz, hf2, add_plain]
  refine ⟨fun b i k hx => con_exec (fun ev => Instr.fieldAt t (ev x) n) (fun _ => by simp only [execOp, h]) _ fun a w β hs => ?_, fun e y k hx => con_exec (fun ev => Instr.fieldAt t (ev x) n) (fun _ => by simp only [execOp, h]) _ fun a w β hs => ?_⟩
  · have h1 := ev_ok hs x
    rw [hx] at h1; simp only [RelV] at h1
    obtain ⟨p, hp, hk, h1⟩ := h1
    refine ⟨_, by rw [h1]; exact run w _ _, ?_⟩
    simp only [RelV]
    exact ⟨p, hp, hk, by simp only [Nat.add_assoc]⟩
  · have h1 := ev_ok hs x
    rw [hx] at h1; simp only [RelV] at h1
    obtain ⟨B, o', h1, h2⟩ := h1
    refine ⟨_, by rw [h1]; exact run w _ _, ?_⟩
    simp only [RelV]
    exact ⟨B, o', by simp only [Nat.add_assoc], h2⟩

/-- A part of cells that lie in a list. -/
theorem partA_ok {w : World} {I : Nat → Prop} {β : Nat → Option Place} {t : TypeId} {i : TI} (ht : TOk P t i) {l : List AV} {off : Nat} {y : AV} (hq : partA i l off = some y) {us : List Value} (hr : RelL (rdW w) I β l us) (hp : ∀ u ∈ us, u.oneCell' = true) :
    ∃ v, RelV (rdW w) I β y v ∧ (part t us.toArray off).run P w = .ok v w ∧ (if i.d.agg then off + i.size ≤ us.length ∧ v = .agg ((us.drop off).take i.size).toArray else us[off]? = some v) := by
  have hl := relL_len _ _ hr
  unfold partA at hq
  split at hq
  · rename_i ha
    split at hq
    · rename_i hle
      cases hq
      refine ⟨.agg ((us.drop off).take i.size).toArray, ?_, ?_, ?_⟩
      · simp only [RelV]
        refine ⟨_, rfl, ?_, fun u hu => hp u (List.mem_of_mem_drop (List.mem_of_mem_take hu))⟩
        refine relL_of_get _ _ (by simp; omega) fun k x v hx hv => ?_
        rw [List.getElem?_take] at hx hv
        split at hx
        · rename_i hk
          rw [if_pos hk] at hv
          rw [List.getElem?_drop] at hx hv
          obtain ⟨v', hv', hr'⟩ := relL_get _ _ hr _ x hx
          rw [hv] at hv'; cases hv'; exact hr'
        · cases hx
      · unfold part
        simp [ht.run_agg, ha, ht.run_size]
      · rw [if_pos ha]; exact ⟨by omega, rfl⟩
    · cases hq
  · rename_i ha
    split at hq
    · rename_i a' ha'
      cases hq
      obtain ⟨v, hv, hr'⟩ := relL_get _ _ hr off _ ha'
      refine ⟨v, hr', ?_, by rw [if_neg ha]; exact hv⟩
      unfold part
      simp [ht.run_agg, ha, hv]
    · cases hq

theorem con_field {t ft : TypeId} {x : Operand} {n off : Nat} (h : o.op = .field t x n) {i j : TI} (ht : TOk P t i) {fs : List (Nat × TypeId)} (hd : i.d = .struct fs) (hf : fs[n]? = some (off, ft)) (hj : TOk P ft j) {l : List AV} (hx : st.ev x = .agg l) {y : AV}
    (hq : partA j l off = some y) : Con P Γ st o y st.heap :=
  con_exec (fun ev => Instr.field t (ev x) n) (fun _ => by simp only [execOp, h]) _ fun a w β hs => by
    obtain ⟨F, hu, hF⟩ := ht.struct hd
    obtain ⟨f, hf1, hf2, hf3⟩ := field_get hF hf
    have h1 := ev_ok hs x
    rw [hx] at h1; simp only [RelV] at h1
    obtain ⟨us, h1, h2, h3⟩ := h1
    obtain ⟨v, hv, hrun, _⟩ := partA_ok hj hq h2 h3
    refine ⟨v, ?_, hv⟩
    rw [h1]
    unfold Instr.field
    simp [run_und hu, hf1, asAgg, hf2, hf3, hrun]

/-- The cells behind an address. -/
theorem at_ok {a : Act} {w : World} {β : Nat → Option Place} (hs : SimB Γ st a w β) {x : AV} {v : Value} (hr : RelV (rdW w) (Γ.after w β st.heap) β x v) {l : List AV} {k : Nat} (hat : st.heap.at x = some (l, k)) (hth : st.heap.there x = true) :
    ∃ B o' us, v = .pointer (some ⟨B, o' + k, none⟩) ∧ us.length = l.length ∧ (∀ j, j < l.length → rdW w B (o' + j) = us[j]?) ∧ RelL (rdW w) (Γ.after w β st.heap) β l us ∧ ∀ u ∈ us, u.oneCell' = true := by
  unfold Heap.at at hat
  split at hat
  · rename_i b i k'
    simp only [RelV] at hr
    obtain ⟨p, hp, hk, rfl⟩ := hr
    split at hat
    · rename_i l' hb
      split at hat
      · rename_i hi; subst hi
        cases hat
        obtain ⟨p', hp', _, h1, h2, h3, cs, ty, c1, c2, us, c3, c4, c5, c6⟩ := hs.ctx.rows b _ hb
        rw [hp] at hp'; cases hp'
        exact ⟨p.B, p.O, us, by simp, c3, fun j hj => by rw [rdW_cells c1]; exact c4 j hj, c5, c6⟩
      · cases hat
    · rename_i e l' hb
      cases hat
      unfold Heap.there at hth
      simp only [hb, decide_eq_true_eq] at hth
      obtain ⟨us, u1, u2, u3⟩ := typed_cells hs.ctx hb hp hk i (l'[i]) (List.getElem?_eq_getElem hth)
      obtain ⟨_, hs', _⟩ := typed_len hs.ctx hb hp
      refine ⟨p.B, p.O + i * p.s, us, rfl, by rw [encC_len, u1], fun j hj => ?_, ?_, relC_plain _ _ _ u3⟩
      · rw [hs']; exact u2 j (by rwa [encC_len] at hj)
      · rw [List.getD_eq_getElem?_getD, List.getElem?_eq_getElem hth]
        exact relC_encC _ _ _ u3
    · cases hat
  · rename_i e y k'
    cases hat
    simp only [RelV] at hr
    obtain ⟨B, o', rfl, hB, us, u1, u2, u3⟩ := hr
    exact ⟨B, o', us, rfl, by rw [encC_len, u1], fun j hj => u2 j (by rwa [encC_len] at hj), relC_encC _ _ _ u3, relC_plain _ _ _ u3⟩
  · cases hat

theorem con_load {t : TypeId} {x : Operand} (h : o.op = .load t x) {i : TI} (ht : TOk P t i) {l : List AV} {k : Nat} (hat : st.heap.at (st.ev x) = some (l, k)) (hth : st.heap.there (st.ev x) = true) {y : AV} (hq : partA i l k = some y) : Con P Γ st o y st.heap :=
  con_exec (fun ev => Instr.loadAt t (ev x)) (fun _ => by simp only [execOp, h]) _ fun a w β hs => by
    obtain ⟨B, o', us, hv, hl, hrd, hrel, hpl⟩ := at_ok hs (ev_ok hs x) hat hth
    obtain ⟨v, hv', _, hsh⟩ := partA_ok ht hq hrel hpl
    refine ⟨v, ?_, hv'⟩
    rw [hv]
    unfold Instr.loadAt loadVar
    simp only [Instr.sureAddr, pure_bind, Sem.run_bind, ht.run_agg, Result.andThen_ok]
    split at hsh
    · rename_i ha
      obtain ⟨hle, rfl⟩ := hsh
      rw [if_pos ha]
      simp only [Sem.run_bind, ht.run_size, Result.andThen_ok]
      have hlen : ((us.drop k).take i.size).length = i.size := by simp; omega
      rw [show i.size = ((us.drop k).take i.size).length from hlen.symm, run_loadCells_list w ⟨B, o' + k, none⟩ ((us.drop k).take i.size) fun j u hu => ?_]
      · simp
      · rw [add_plain]
        rw [List.getElem?_take] at hu
        split at hu
        · rw [List.getElem?_drop] at hu
          have hkj : k + j < us.length := (List.getElem?_eq_some_iff.1 hu).1
          have := hrd (k + j) (by omega)
          rw [hu] at this
          rw [Nat.add_assoc]
          exact this
        · cases hu
    · rename_i ha
      rw [if_neg ha]
      have hk : k < us.length := (List.getElem?_eq_some_iff.1 hsh).1
      have := hrd k (by omega)
      rw [hsh] at this
      unfold rdW at this
      simp [this]

theorem con_indexStr {t : TypeId} {x ix : Operand} (h : o.op = .index t x ix) {i : TI} (ht : TOk P t i) (hd : i.d = .str) {s : List UInt8} (hx : st.ev x = .str s) {k : IntKind} {n : Int} (hix : st.ev ix = .int k n) (h0 : 0 ≤ n) (h1 : n < s.length) :
    Con P Γ st o (.int .u8 (s.getD n.toNat 0).toNat) st.heap :=
  con_exec (fun ev => Instr.index t (ev x) (ev ix)) (fun _ => by simp only [execOp, h]) _ fun a w β hs => by
    have e1 := ev_ok hs x; have e2 := ev_ok hs ix
    rw [hx] at e1; rw [hix] at e2; simp only [RelV] at e1 e2
    obtain ⟨b, e1, rfl⟩ := e1
    refine ⟨.int .u8 (b.data.toList.getD n.toNat 0).toNat, ?_, by simp only [RelV]⟩
    rw [e1, e2, run_index_string w t b k n (ht.str hd)]
    rw [← size_data] at h1
    rw [dif_pos ⟨h0, h1⟩]
    congr 3
    rw [List.getD_eq_getElem?_getD, List.getElem?_eq_getElem (by rw [← size_data]; omega)]
    simp [ByteArray.getElem_eq_getElem_data]
end
end Go.AM
end
section
namespace Go.AM
open Go.RowKit (Below)
section
variable {P : Program} {Γ : Base} {st : St} {o : Oper} {ρ : Type} {z : ρ} {K : AV → Option ρ}

/-! ### x[lo:hi] -/
/-- The bounds as the model takes them: what 'bnd' lets through is what 'sliceBounds' gives. -/
theorem bnd_ok {n : Nat} {lo hi : Option AV} {f : Option Int → Option Int → Option ρ} (h : bnd n lo hi f = some z) :
    ∃ l r : Option Int, f l r = some z ∧ (∀ (lv hv : Option Value), (∀ v, lv = some v → ∃ k x, lo = some (.int k x) ∧ v = .int k x) → (lv = none → lo = none) → (∀ v, hv = some v → ∃ k x, hi = some (.int k x) ∧ v = .int k x) → (hv = none → hi = none) →
      ∀ (isS : Bool) (cap : Nat) (w : World), n ≤ cap → (Instr.sliceBounds isS n cap lv hv none).run P w = .ok ((l.map Int.toNat).getD 0, (r.map Int.toNat).getD n, cap) w) ∧
      (l.map Int.toNat).getD 0 ≤ (r.map Int.toNat).getD n ∧ (r.map Int.toNat).getD n ≤ n := by
  have sb : ∀ (k : IntKind) (x : Int) (y : Nat) (c : BoundsCode) (w : World), 0 ≤ x → x ≤ y → (Instr.sliceBound (.int k x) y c).run P w = .ok x.toNat w := by
    intro k x y c w h0 h1
    simp [Instr.sliceBound, asIntOf, h0, h1]
  unfold bnd at h
  split at h
  · refine ⟨none, none, h, fun lv hv h1 h2 h3 h4 isS cap w hc => ?_, by simp, by simp⟩
    cases lv with
    | some v => obtain ⟨_, _, h, _⟩ := h1 v rfl; cases h
    | none => cases hv with
      | some v => obtain ⟨_, _, h, _⟩ := h3 v rfl; cases h
      | none => simp [Instr.sliceBounds]
  · rename_i k l
    obtain ⟨hb, h⟩ := grd_some h
    simp only [Bool.and_eq_true, decide_eq_true_eq] at hb
    refine ⟨some l, none, h, fun lv hv h1 h2 h3 h4 isS cap w hc => ?_, by simp; omega, by simp⟩
    cases hv with
    | some v => obtain ⟨_, _, h, _⟩ := h3 v rfl; cases h
    | none => cases lv with
      | none => have := h2 rfl; cases this
      | some v =>
        obtain ⟨_, _, e, rfl⟩ := h1 v rfl
        cases e
        simp [Instr.sliceBounds, sb _ _ n _ w hb.1 hb.2]
  · rename_i k r
    obtain ⟨hb, h⟩ := grd_some h
    simp only [Bool.and_eq_true, decide_eq_true_eq] at hb
    refine ⟨none, some r, h, fun lv hv h1 h2 h3 h4 isS cap w hc => ?_, by simp, by simp; omega⟩
    cases lv with
    | some v => obtain ⟨_, _, h, _⟩ := h1 v rfl; cases h
    | none => cases hv with
      | none => have := h4 rfl; cases this
      | some v =>
        obtain ⟨_, _, e, rfl⟩ := h3 v rfl
        cases e
        simp [Instr.sliceBounds, sb _ _ cap _ w hb.1 (by omega)]
  · rename_i k l k' r
    obtain ⟨hb, h⟩ := grd_some h
    simp only [Bool.and_eq_true, decide_eq_true_eq] at hb
    refine ⟨some l, some r, h, fun lv hv h1 h2 h3 h4 isS cap w hc => ?_, by simp; omega, by simp; omega⟩
    cases lv with
    | none => have := h2 rfl; cases this
    | some v =>
      obtain ⟨_, _, e, rfl⟩ := h1 v rfl
      cases e
      cases hv with
      | none => have := h4 rfl; cases this
      | some v =>
        obtain ⟨_, _, e, rfl⟩ := h3 v rfl
        cases e
        simp [Instr.sliceBounds, sb _ _ cap _ w (by omega) (by omega : r ≤ (cap : Int)), sb _ l r.toNat _ w hb.1.1 (by omega)]
  · cases h

theorem opt_ev {a : Act} {w : World} {β : Nat → Option Place} (hs : SimB Γ st a w β) (x : Option Operand) :
    (∀ v, x.map a.eval = some v → ∀ k n, x.map st.ev = some (.int k n) → v = .int k n) := by
  intro v hv k n hn
  cases x with
  | none => cases hn
  | some x =>
    simp at hv hn
    subst hv
    have := ev_ok hs x
    rw [hn] at this
    simpa only [RelV] using this

theorem cut_some {α : Type} (s : List α) (l r : Option Int) : cut s l r = (s.take ((r.map Int.toNat).getD s.length)).drop ((l.map Int.toNat).getD 0) := by
  cases l <;> cases r <;> simp [cut]

theorem extract_list (b : ByteArray) (l h : Nat) : (b.extract l h).data.toList = (b.data.toList.take h).drop l := by
  rw [ByteArray.data_extract, Array.toList_extract, List.extract_eq_take_drop, List.drop_take]

/-- The bounds of the model's slice expression, at operands whose values are known as whole numbers. -/
theorem bounds_run {n : Nat} {lo hi : Option Operand} {l r : Option Int}
    (H : ∀ (lv hv : Option Value), (∀ v, lv = some v → ∃ k x, lo.map st.ev = some (.int k x) ∧ v = .int k x) → (lv = none → lo.map st.ev = none) → (∀ v, hv = some v → ∃ k x, hi.map st.ev = some (.int k x) ∧ v = .int k x) → (hv = none → hi.map st.ev = none) →
      ∀ (isS : Bool) (cap : Nat) (w : World), n ≤ cap → (Instr.sliceBounds isS n cap lv hv none).run P w = .ok ((l.map Int.toNat).getD 0, (r.map Int.toNat).getD n, cap) w)
    (hlo : ∀ x, lo.map st.ev = some x → ∃ k n, x = .int k n) (hhi : ∀ x, hi.map st.ev = some x → ∃ k n, x = .int k n)
    {a : Act} {w : World} {β : Nat → Option Place} (hs : SimB Γ st a w β) (isS : Bool) (cap : Nat) (hc : n ≤ cap) :
    (Instr.sliceBounds isS n cap (lo.map a.eval) (hi.map a.eval) none).run P w = .ok ((l.map Int.toNat).getD 0, (r.map Int.toNat).getD n, cap) w := by
  refine H _ _ (fun v hv => ?_) (fun e => by cases lo <;> simp_all) (fun v hv => ?_) (fun e => by cases hi <;> simp_all) isS cap w hc
  · cases lo with
    | none => cases hv
    | some x =>
      obtain ⟨k, m, e⟩ := hlo (st.ev x) rfl
      exact ⟨k, m, by simp [e], opt_ev hs (some x) v hv k m (by simp [e])⟩
  · cases hi with
    | none => cases hv
    | some x =>
      obtain ⟨k, m, e⟩ := hhi (st.ev x) rfl
      exact ⟨k, m, by simp [e], opt_ev hs (some x) v hv k m (by simp [e])⟩

theorem bnd_ints {n : Nat} {lo hi : Option AV} {f : Option Int → Option Int → Option ρ} (h : bnd n lo hi f = some z) : (∀ x, lo = some x → ∃ k n, x = .int k n) ∧ (∀ x, hi = some x → ∃ k n, x = .int k n) := by
  unfold bnd at h
  split at h
  · exact ⟨(fun x h => by cases h), (fun x h => by cases h)⟩
  · exact ⟨(fun x h => by cases h; exact ⟨_, _, rfl⟩), (fun x h => by cases h)⟩
  · exact ⟨(fun x h => by cases h), (fun x h => by cases h; exact ⟨_, _, rfl⟩)⟩
  · exact ⟨(fun x h => by cases h; exact ⟨_, _, rfl⟩), (fun x h => by cases h; exact ⟨_, _, rfl⟩)⟩
  · cases h

theorem con_sliceStr {t : TypeId} {x : Operand} {lo hi : Option Operand} (h : o.op = .slice t x lo hi none) {i : TI} (ht : TOk P t i) (hd : i.d = .str) {s : List UInt8} (hx : st.ev x = .str s) {sz : Nat}
    (hq : sliceQ st.heap sz (.str s) (lo.map st.ev) (hi.map st.ev) K = some z) : ∃ y, K y = some z ∧ Con P Γ st o y st.heap := by
  simp only [sliceQ] at hq
  obtain ⟨l, r, hq', H, h1, h2⟩ := bnd_ok (P := P) hq
  obtain ⟨i1, i2⟩ := bnd_ints hq
  refine ⟨_, hq', con_exec (fun ev => Instr.sliceAt t (ev x) (lo.map ev) (hi.map ev) none) (fun _ => by simp only [execOp, h, Option.map_none]) _ fun a w β hs => ?_⟩
  have e1 := ev_ok hs x
  rw [hx] at e1; simp only [RelV] at e1
  obtain ⟨b, e1, rfl⟩ := e1
  have := bounds_run H i1 i2 hs false b.data.toList.length (Nat.le_refl _)
  rw [← size_data] at this
  refine ⟨.string (b.extract ((l.map Int.toNat).getD 0) ((r.map Int.toNat).getD b.size)), ?_, ?_⟩
  · rw [e1, run_sliceAt_string w t _ _ _ _ (ht.str hd)]
    unfold Instr.slice
    simp [run_und (ht.str hd), this]
  · simp only [RelV]
    exact ⟨_, rfl, by rw [extract_list, cut_some, size_data]⟩

/-- The model's slice expression of a slice. -/
theorem run_slice {t e : TypeId} {i j : TI} (ht : TOk P t i) (hd : i.d = .slice e) (hj : TOk P e j) {a : Option Addr} {n c l h : Nat} {lo hi : Option Value} (w : World) (hb : (Instr.sliceBounds true n c lo hi none).run P w = .ok (l, h, c) w) :
    (Instr.sliceAt t (.slice a n c) lo hi none).run P w = .ok (.slice (if c = l then a else a.map (·.add (l * j.size))) (h - l) (c - l)) w := by
  unfold Instr.sliceAt
  simp only [Sem.run_bind, run_und (ht.slice hd), Result.andThen_ok]
  unfold Instr.slice
  simp [run_und (ht.slice hd), hb, hj.run_size]

theorem view_slice {p : Place} {off n c l h s : Nat} {a : Option Addr} (hv : ViewRel p off n (.slice a n c)) (h1 : l ≤ h) (h2 : h ≤ n) (hs : p.s = s) :
    ViewRel p (off + l) (h - l) (.slice (if c = l then a else a.map (·.add (l * s))) (h - l) (c - l)) := by
  obtain ⟨h0, a', c', e, h3, h4, h5⟩ := hv
  cases e
  refine ⟨by omega, _, _, rfl, by omega, by omega, ?_⟩
  by_cases hc : c = l
  · left; omega
  · rw [if_neg hc]
    rcases h5 with h5 | ⟨hk, rfl, hz⟩
    · omega
    · refine .inr ⟨hk, ?_, by rw [show off + l + (c - l) = off + c from by omega]; exact hz⟩
      simp only [Option.map_some, add_plain, Nat.add_mul, hs, Nat.add_assoc]

theorem con_slice {t e : TypeId} {x : Operand} {lo hi : Option Operand} (h : o.op = .slice t x lo hi none) {i j : TI} (ht : TOk P t i) (hd : i.d = .slice e) (hj : TOk P e j) (hns : ∀ s, st.ev x ≠ .str s)
    (hq : sliceQ st.heap j.size (st.ev x) (lo.map st.ev) (hi.map st.ev) K = some z) : ∃ y, K y = some z ∧ Con P Γ st o y st.heap := by
  have hex : ∀ (y : AV) (hh : ∀ a w β, SimB Γ st a w β → ∃ v, (Instr.sliceAt t (a.eval x) (lo.map a.eval) (hi.map a.eval) none).run P w = .ok v w ∧ RelV (rdW w) (Γ.after w β st.heap) β y v), Con P Γ st o y st.heap :=
    fun y hh => con_exec (fun ev => Instr.sliceAt t (ev x) (lo.map ev) (hi.map ev) none) (fun _ => by simp only [execOp, h, Option.map_none]) y hh
  have views : ∀ (b off n n' : Nat) (f : Option Int → Option Int → AV), (∀ (v : Value) (a : Act) (w : World) (β : Nat → Option Place), SimB Γ st a w β → v = a.eval x → ∃ p, β b = some p ∧ ViewRel p off n v) → st.heap.lenS j.size b = some n' →
      (∀ a w β p l r, SimB Γ st a w β → β b = some p → p.n = n' → (l.map Int.toNat).getD 0 ≤ (r.map Int.toNat).getD n → ∀ v, ViewRel p (off + (l.map Int.toNat).getD 0) ((r.map Int.toNat).getD n - (l.map Int.toNat).getD 0) v → RelV (rdW w) (Γ.after w β st.heap) β (f l r) v) →
      bnd n (lo.map st.ev) (hi.map st.ev) (fun l r => K (f l r)) = some z → ∃ y, K y = some z ∧ Con P Γ st o y st.heap := by
    intro b off n n' f hview hlen hrel hb
    obtain ⟨l, r, hq', H, h1, h2⟩ := bnd_ok (P := P) hb
    obtain ⟨i1, i2⟩ := bnd_ints hb
    refine ⟨_, hq', hex _ fun a w β hs => ?_⟩
    obtain ⟨p, hp, hv⟩ := hview _ a w β hs rfl
    obtain ⟨hps, hpn⟩ := row_place hs.ctx hlen hp
    have hv0 := hv
    obtain ⟨g0, ad, c, hxv, g1, g2, g3⟩ := hv
    rw [hxv] at hv0
    have hrun := bounds_run H i1 i2 hs true c g1
    rw [hxv]
    exact ⟨_, run_slice ht hd hj w hrun, hrel a w β p l r hs hp hpn h1 _ (view_slice hv0 h1 h2 hps)⟩
  unfold sliceQ at hq
  split at hq
  · rename_i s hx; exact absurd hx (hns s)
  · rename_i hx
    obtain ⟨l, r, hq', H, h1, h2⟩ := bnd_ok (P := P) hq
    obtain ⟨i1, i2⟩ := bnd_ints hq
    refine ⟨_, hq', hex _ fun a w β hs => ?_⟩
    have e1 := ev_ok hs x
    rw [hx] at e1; simp only [RelV] at e1
    have hrun := bounds_run H i1 i2 hs true 0 (Nat.le_refl _)
    rw [e1]
    refine ⟨_, run_slice ht hd hj w hrun, ?_⟩
    simp only [RelV]
    have : (l.map Int.toNat).getD 0 = 0 := by omega
    simp [this]; omega
  · rename_i e' full l hx
    split at hq
    · rename_i hc
      obtain ⟨lo', hi', hq', H, h1, h2⟩ := bnd_ok (P := P) hq
      obtain ⟨i1, i2⟩ := bnd_ints hq
      refine ⟨_, hq', hex _ fun a w β hs => ?_⟩
      have e1 := ev_ok hs x
      rw [hx] at e1; simp only [RelV, RelC] at e1
      obtain ⟨⟨ad, c, he, hcap, hread⟩, hfull⟩ := e1
      have hxv : a.eval x = .slice ad l.length c := by simpa using he
      have hrun := bounds_run H i1 i2 hs true c hcap
      rw [hxv]
      refine ⟨_, run_slice ht hd hj w hrun, ?_⟩
      have hlen : (cut l lo' hi').length = (hi'.map Int.toNat).getD l.length - (lo'.map Int.toNat).getD 0 := by
        rw [cut_some, List.length_drop, List.length_take]; omega
      simp only [RelV, RelC]
      refine ⟨⟨_, c - (lo'.map Int.toNat).getD 0, by rw [hlen], by rw [hlen]; omega, fun hne => ?_⟩, fun hf => ?_⟩
      · have hpos : (lo'.map Int.toNat).getD 0 < (hi'.map Int.toNat).getD l.length := by
          have : (cut l lo' hi').length ≠ 0 := fun h => hne (List.eq_nil_of_length_eq_zero h)
          omega
        have hlne : l ≠ [] := by intro e0; have : l.length = 0 := by rw [e0]; rfl
                                 omega
        obtain ⟨B, o', rfl, hB, hrd⟩ := hread hlne
        refine ⟨B, o' + (lo'.map Int.toNat).getD 0 * j.size, ?_, hB, fun i y hi => ?_⟩
        · rw [if_neg (by omega)]; simp [add_plain]
        · rw [cut_some, List.getElem?_drop, List.getElem?_take] at hi
          split at hi
          · obtain ⟨us, u1, u2, u3⟩ := hrd _ y hi
            refine ⟨us, u1, fun q hq => ?_, u3⟩
            rw [← u2 q hq, ← hc, Nat.add_mul]
            congr 1; omega
          · cases hi
      · rw [hlen]
        cases hi' with
        | none =>
          simp only at hf
          obtain ⟨a0, e0⟩ := hfull hf
          rw [hxv] at e0
          have hcl : c = l.length := by simpa using (Value.slice.inj e0).2.2
          rw [hcl]; exact ⟨_, rfl⟩
        | some r => simp at hf
    · cases hq
  · rename_i b hx
    split at hq
    case h_2 => cases hq
    rename_i m hm
    refine views b 0 m m (fun l r => match l, r with
      | none, none => .vw b
      | none, some h => .pre b h.toNat
      | some l, none => .sub b l.toNat (m - l.toNat)
      | some l, some h => .sub b l.toNat (h.toNat - l.toNat)) (fun v a w β hs hv => ?_) hm (fun a w β p l r hs hp hpn hle v hv => ?_) (by rw [← hq]; congr 1; funext l r; cases l <;> cases r <;> rfl)
    · have e1 := ev_ok hs x
      rw [hx, rel_vw] at e1
      obtain ⟨p, hp, hv'⟩ := e1
      obtain ⟨_, hpn⟩ := row_place hs.ctx hm hp
      subst hv; rw [← hpn]; exact ⟨p, hp, hv'⟩
    · cases l <;> cases r <;> simp at hv ⊢
      · rw [rel_vw]; exact ⟨p, hp, by rw [hpn]; exact hv⟩
      · rw [rel_pre]; exact ⟨p, hp, hv⟩
      · rw [rel_sub]; exact ⟨p, hp, hv⟩
      · rw [rel_sub]; exact ⟨p, hp, hv⟩
  · rename_i b m hx
    split at hq
    case h_2 => cases hq
    rename_i m' hm
    refine views b 0 m m' (fun l r => match l, r with
      | none, none => .pre b m
      | none, some h => .pre b h.toNat
      | some l, none => .sub b l.toNat (m - l.toNat)
      | some l, some h => .sub b l.toNat (h.toNat - l.toNat)) (fun v a w β hs hv => ?_) hm (fun a w β p l r hs hp hpn hle v hv => ?_) (by rw [← hq]; congr 1; funext l r; cases l <;> cases r <;> rfl)
    · have e1 := ev_ok hs x
      rw [hx, rel_pre] at e1
      subst hv; exact e1
    · cases l <;> cases r <;> simp at hv ⊢
      · rw [rel_pre]; exact ⟨p, hp, hv⟩
      · rw [rel_pre]; exact ⟨p, hp, hv⟩
      · rw [rel_sub]; exact ⟨p, hp, hv⟩
      · rw [rel_sub]; exact ⟨p, hp, hv⟩
  · rename_i b off m hx
    split at hq
    case h_2 => cases hq
    rename_i m' hm
    refine views b off m m' (fun l r => match l, r with
      | none, none => .sub b off m
      | none, some h => .sub b off h.toNat
      | some l, none => .sub b (off + l.toNat) (m - l.toNat)
      | some l, some h => .sub b (off + l.toNat) (h.toNat - l.toNat)) (fun v a w β hs hv => ?_) hm (fun a w β p l r hs hp hpn hle v hv => ?_) (by rw [← hq]; congr 1; funext l r; cases l <;> cases r <;> rfl)
    · have e1 := ev_ok hs x
      rw [hx, rel_sub] at e1
      subst hv; exact e1
    · cases l <;> cases r <;> simp at hv ⊢
      all_goals (rw [rel_sub]; exact ⟨p, hp, hv⟩)
  · cases hq
end
end Go.AM
end
section
namespace Go.AM
open Go.RowKit (Below)
section
variable {P : Program} {Γ : Base} {st : St} {o : Oper} {ρ : Type} {z : ρ} {K : AV → Option ρ}

/-! ### Conversions -/
theorem con_convInt {src dst : TypeId} {x : Operand} (h : o.op = .convert src dst x) {s d : TI} (hs0 : TOk P src s) (hd0 : TOk P dst d) {k k' k2 : IntKind} {n : Int} (h1 : s.d = .int k') (h2 : d.d = .int k) (hx : st.ev x = .int k2 n) : Con P Γ st o (.int k (k.wrap n)) st.heap :=
  con_exec (fun ev => convert src dst (ev x)) (fun _ => by simp only [execOp, h]) _ fun a w β hs => by
    have e1 := ev_ok hs x
    rw [hx] at e1; simp only [RelV] at e1
    refine ⟨.int k (k.wrap n), ?_, by simp only [RelV]⟩
    rw [e1]
    unfold convert
    simp [run_und (hs0.int h1), run_und (hd0.int h2), Conv.intToInt]

theorem con_convStr {src dst : TypeId} {x : Operand} (h : o.op = .convert src dst x) {s d : TI} (hs0 : TOk P src s) (hd0 : TOk P dst d) {t : List UInt8} (h1 : s.d = .str) (h2 : d.d = .str) (hx : st.ev x = .str t) : Con P Γ st o (.str t) st.heap :=
  con_exec (fun ev => convert src dst (ev x)) (fun _ => by simp only [execOp, h]) _ fun a w β hs => by
    have e1 := ev_ok hs x
    rw [hx] at e1
    have e2 := e1
    simp only [RelV] at e1
    obtain ⟨b, e1, _⟩ := e1
    refine ⟨a.eval x, ?_, e2⟩
    rw [e1]
    unfold convert
    simp [run_und (hs0.str h1), run_und (hd0.str h2)]

theorem con_convBytes {src dst e : TypeId} {x : Operand} (h : o.op = .convert src dst x) {s d j : TI} (hs0 : TOk P src s) (hd0 : TOk P dst d) (hj : TOk P e j) {t : List UInt8} (h1 : s.d = .str) (h2 : d.d = .slice e) (h3 : j.d = .int .u8) (hx : st.ev x = .str t) :
    Con P Γ st o (.sl (.int .u8) false (t.map fun b => (b.toNat : Int))) st.heap :=
  con_value fun a w β hs => by
    have e1 := ev_ok hs x
    rw [hx] at e1; simp only [RelV] at e1
    obtain ⟨b, e1, rfl⟩ := e1
    have hext : Ext w (Lib.bytesWorld w e b) := ⟨rfl, rfl, rfl, by rw [Lib.bytesWorld_size]; omega, fun B hB => Lib.bytesWorld_at_old w e b B hB⟩
    refine ⟨_, _, by simp only [execOp, h, e1, Sem.run_bind]; rw [Lib.run_convert_string_bytes w src dst e b (hs0.str h1) (hd0.slice h2) (hj.int h3)]; rfl, β, hs.ext hext, ?_⟩
    simp only [RelV, RelC]
    refine ⟨⟨_, _, by rw [List.length_map, ← size_data], by rw [List.length_map, ← size_data]; exact grownCap_ge _ _ _ _, fun hne => ⟨w.heap.size, 0, rfl, ⟨by rw [Lib.bytesWorld_size]; omega, .inr (.inr hs.frm.size), ?_⟩, fun i y hi => ?_⟩⟩, by simp⟩
    · rintro ⟨b', r, p, hb', hp, hk, hB⟩
      obtain ⟨p', hp', hg, _⟩ := hs.ctx.rows b' r hb'
      rw [hp] at hp'; cases hp'
      have := (hg hk).2; omega
    · rw [List.getElem?_map] at hi
      have hil : i < b.size := by
        rw [size_data]
        rcases Nat.lt_or_ge i b.data.toList.length with h' | h'
        · exact h'
        · rw [List.getElem?_eq_none h'] at hi; cases hi
      refine ⟨[.int .u8 y], rfl, fun q hq => ?_, rfl⟩
      have hq0 : q = 0 := by simp [GT.cells] at hq; omega
      subst hq0
      have := Lib.bytesWorld_cell w e b i hil
      simp only [rdW, GT.cells, Nat.mul_one, Nat.zero_add, Nat.add_zero]
      rw [this]
      rw [List.getD_eq_getElem?_getD]
      cases hh : b.data.toList[i]? with
      | none => rw [hh] at hi; cases hi
      | some c => rw [hh] at hi; simp at hi; simp [← hi]

theorem con_convBack {src dst e : TypeId} {x : Operand} (h : o.op = .convert src dst x) {s d j : TI} (hs0 : TOk P src s) (hd0 : TOk P dst d) (hj : TOk P e j) (h1 : s.d = .slice e) (h2 : d.d = .str) (h3 : j.d = .int .u8) {l : List Int} {m : List Nat}
    (hx : decC st.heap (.sl (.int .u8)) [st.ev x] = some (l, [], m)) : Con P Γ st o (.str (l.map fun n => UInt8.ofNat n.toNat)) st.heap :=
  con_exec (fun ev => convert src dst (ev x)) (fun _ => by simp only [execOp, h]) _ fun a w β hs => by
    obtain ⟨u1, u2, hu, hr, hn⟩ := decC_ok hs.ctx (.sl (.int .u8)) [st.ev x] [a.eval x] l [] m (by simp only [RelL]; exact ⟨_, [], rfl, ev_ok hs x, rfl⟩) hx
    simp only [RelL] at hn; subst hn
    simp only [List.append_nil] at hu; subst hu
    simp only [RelC] at hr
    obtain ⟨ad, c, he, hc, hread⟩ := hr
    have hxv : a.eval x = .slice ad l.length c := by simpa using he
    rw [hxv]
    cases hl : l with
    | nil =>
      refine ⟨.string ByteArray.empty, ?_, by simp [RelV]⟩
      cases ad with
      | none => exact run_convert_bytes_nil w src e (hs0.slice h1) (hj.int h3) _ _ dst (hd0.str h2)
      | some ad =>
        rw [run_convert_bytes_string w src dst e _ _ c (hs0.slice h1) (hj.int h3) (hd0.str h2), run_bytesToString w ad _ c [] (by simp [loadCells, loadCellsFrom])]
        rfl
    | cons y l' =>
      obtain ⟨B, o', rfl, _, hrd⟩ := hread (by rw [hl]; simp)
      refine ⟨.string (strOfNums l), ?_, ?_⟩
      · rw [← hl]
        refine run_convert_bytes_arg w src e (hs0.slice h1) (hj.int h3) B o' _ c l rfl (fun i hi => ?_) dst (hd0.str h2)
        obtain ⟨us, g1, g2, g3⟩ := hrd i (l[i]) (List.getElem?_eq_getElem hi)
        have g3' : us = [.int .u8 (l[i])] := by simpa only [RelC] using g3
        have := g2 0 (by simp [GT.cells])
        rw [g3'] at this
        simp only [rdW, GT.cells, Nat.mul_one, Nat.add_zero] at this
        rw [this, List.getD_eq_getElem?_getD, List.getElem?_eq_getElem hi]
        rfl
      · rw [← hl]
        simp only [RelV]
        exact ⟨_, rfl, strOfNums_data l⟩

/-! ### len, max, min -/
theorem con_call1 {c : Call} (h : o.op = .call c) {b : Builtin} (hc : c.callee = .builtin b) {x : AV} (hr : ∀ a w β, SimB Γ st a w β → ∃ v, (builtin b c.argTypes o.type (c.args.map fun | .const _ => true | _ => false) (c.args.map a.eval)).run P w = .ok (.value v) w ∧ RelV (rdW w) (Γ.after w β st.heap) β x v) : Con P Γ st o x st.heap :=
  con_pure fun a w β hs => by
    obtain ⟨v, h1, h2⟩ := hr a w β hs
    exact ⟨v, by simp only [execOp, h, resolve, hc, pure_bind, invoke]; exact h1, h2⟩

theorem con_lenStr {c : Call} (h : o.op = .call c) (hc : c.callee = .builtin .len) {x : Operand} {t : TypeId} (ha : c.args.toList = [x]) (hat : c.argTypes.toList = [t]) {i : TI} (ht : TOk P t i) (hd : i.d = .str) {s : List UInt8} (hx : st.ev x = .str s) :
    Con P Γ st o (.int .i64 s.length) st.heap := by
  have ea : c.args = #[x] := by have := congrArg List.toArray ha; simpa using this
  have et : c.argTypes = #[t] := by have := congrArg List.toArray hat; simpa using this
  refine con_call1 h hc fun a w β hs => ⟨.int .i64 s.length, ?_, by simp only [RelV]⟩
  have e1 := ev_ok hs x
  rw [hx] at e1; simp only [RelV] at e1
  obtain ⟨b, e1, e2⟩ := e1
  simp [builtin, ea, et, Builtin.len_, run_und (ht.str hd), goInt, e1, ← e2]

theorem con_len {c : Call} (h : o.op = .call c) (hc : c.callee = .builtin .len) {x : Operand} {t e : TypeId} (ha : c.args.toList = [x]) (hat : c.argTypes.toList = [t]) {i : TI} (ht : TOk P t i) (hd : i.d = .slice e)
    (hq : lenQ st.heap (st.ev x) K = some z) : ∃ y, K y = some z ∧ Con P Γ st o y st.heap := by
  have ea : c.args = #[x] := by have := congrArg List.toArray ha; simpa using this
  have et : c.argTypes = #[t] := by have := congrArg List.toArray hat; simpa using this
  have key : ∀ (n : Nat), (∀ a w β, SimB Γ st a w β → ∃ ad c, a.eval x = .slice ad n c) → Con P Γ st o (.int .i64 n) st.heap := by
    intro n hn
    refine con_call1 h hc fun a w β hs => ⟨.int .i64 n, ?_, by simp only [RelV]⟩
    obtain ⟨ad, c', e1⟩ := hn a w β hs
    simp [builtin, ea, et, Builtin.len_, run_und (ht.slice hd), goInt, e1]
  unfold lenQ at hq
  split at hq
  · rename_i e' f l hx
    refine ⟨_, hq, key _ fun a w β hs => ?_⟩
    have e1 := ev_ok hs x
    rw [hx] at e1; simp only [RelV, RelC] at e1
    obtain ⟨⟨ad, c', he, _⟩, _⟩ := e1
    exact ⟨ad, c', by simpa using he⟩
  · rename_i hx
    refine ⟨_, hq, key 0 fun a w β hs => ?_⟩
    have e1 := ev_ok hs x
    rw [hx] at e1; simp only [RelV] at e1
    exact ⟨none, 0, e1⟩
  · rename_i b hx
    split at hq
    · rename_i n hn
      refine ⟨_, hq, key _ fun a w β hs => ?_⟩
      have e1 := ev_ok hs x
      rw [hx] at e1; simp only [RelV] at e1
      obtain ⟨p, hp, ad, c', e1, _⟩ := e1
      unfold Heap.len at hn
      split at hn
      · rename_i e' l hb
        cases hn
        obtain ⟨hpn, _⟩ := typed_len hs.ctx hb hp
        exact ⟨ad, c', by rw [e1, hpn]⟩
      · cases hn
    · cases hq
  · rename_i b n hx
    refine ⟨_, hq, key _ fun a w β hs => ?_⟩
    have e1 := ev_ok hs x
    rw [hx] at e1; simp only [RelV] at e1
    obtain ⟨p, hp, _, ad, c', e1, _⟩ := e1
    exact ⟨ad, c', e1⟩
  · rename_i b off n hx
    refine ⟨_, hq, key _ fun a w β hs => ?_⟩
    have e1 := ev_ok hs x
    rw [hx] at e1; simp only [RelV] at e1
    obtain ⟨p, hp, _, ad, c', e1, _⟩ := e1
    exact ⟨ad, c', e1⟩
  · cases hq

theorem foldMM_ok {f : Int → Int → Int} {g : Value → Value → Sem Value} {k : IntKind} (hg : ∀ a b w, (g (.int k a) (.int k b)).run P w = .ok (.int k (f a b)) w) {rd : Nat → Nat → Option Value} {I : Nat → Prop} {β : Nat → Option Place} {w : World} :
    ∀ (l : List AV) (us : List Value) (a n : Int), RelL rd I β l us → foldMM f k a l = some n → (us.foldlM g (.int k a)).run P w = .ok (.int k n) w
  | [], us, a, n, hr, hq => by
    simp only [RelL] at hr; subst hr
    simp only [foldMM] at hq; cases hq
    rfl
  | x :: l, us, a, n, hr, hq => by
    simp only [RelL] at hr
    obtain ⟨u, us', rfl, h1, h2⟩ := hr
    cases x <;> simp only [foldMM, reduceCtorEq] at hq
    rename_i k' b
    split at hq
    · rename_i hk; subst hk
      simp only [RelV] at h1; subst h1
      simp only [List.foldlM_cons, Sem.run_bind, hg, Result.andThen_ok]
      exact foldMM_ok hg l us' _ n h2 hq
    · cases hq

theorem con_max {c : Call} (h : o.op = .call c) (hc : c.callee = .builtin .max) {k : IntKind} {p n : Int} {r : List AV} (ha : c.args.toList.map st.ev = .int k p :: r) (hq : foldMM maxA k p r = some n) : Con P Γ st o (.int k n) st.heap :=
  con_call1 h hc fun a w β hs => by
    have e1 := evs_ok hs c.args.toList
    rw [ha] at e1
    simp only [RelL, RelV] at e1
    obtain ⟨u, us, e2, rfl, e3⟩ := e1
    refine ⟨.int k n, ?_, by simp only [RelV]⟩
    have := foldMM_ok (P := P) (g := Builtin.max2) (k := k) (f := maxA) (fun a b w => by simp [Builtin.max2, maxA]) (w := w) r us p n e3 hq
    simp [builtin, Builtin.max_, e2, this]

theorem con_min {c : Call} (h : o.op = .call c) (hc : c.callee = .builtin .min) {k : IntKind} {p n : Int} {r : List AV} (ha : c.args.toList.map st.ev = .int k p :: r) (hq : foldMM minA k p r = some n) : Con P Γ st o (.int k n) st.heap :=
  con_call1 h hc fun a w β hs => by
    have e1 := evs_ok hs c.args.toList
    rw [ha] at e1
    simp only [RelL, RelV] at e1
    obtain ⟨u, us, e2, rfl, e3⟩ := e1
    refine ⟨.int k n, ?_, by simp only [RelV]⟩
    have := foldMM_ok (P := P) (g := Builtin.min2) (k := k) (f := minA) (fun a b w => by simp [Builtin.min2, minA]) (w := w) r us p n e3 hq
    simp [builtin, Builtin.min_, e2, this]
end
end Go.AM
end
