/- What the functions of the program compute, as functions of plain data, with the proofs that the program computes just that. No condition beyond what each statement says. -/
import Derived.Test.YtollagkikaapjaaGreatDoorA3
import Derived.Lib.Repeat
import Derived.Lib.ParseIntB
import Derived.Lib.Strings
import Derived.Lib.SlTrimSet
import Derived.Lib.Atoi
import Derived.Lib.AtoiAll
import Derived.Lib.ItoaNum
import Derived.Lib.IndexMore
set_option linter.unusedSimpArgs false
set_option linter.unusedVariables false
section
namespace Go.AM.Num

def strings_Cut (s sep : List UInt8) : Option ((List UInt8 × List UInt8 × Bool × Unit) × Unit) :=
  if s.length < 4294967281 then some (((Lib.cut s sep).1, (Lib.cut s sep).2.1, (Lib.cut s sep).2.2, ()), ()) else none
def strings_CutPrefix (s p : List UInt8) : Option ((List UInt8 × Bool × Unit) × Unit) := some ((Lib.trimPrefix s p, Lib.hasPrefix s p, ()), ())
def strings_Cut_C : Callee := ⟨[.val .str, .val .str], [.val .str, .val .str, .val .bool], fun x => strings_Cut x.1 x.2.1⟩
def strings_CutPrefix_C : Callee := ⟨[.val .str, .val .str], [.val .str, .val .bool], fun x => strings_CutPrefix x.1 x.2.1⟩
def strings_Repeat (s : List UInt8) (n : Int) : Option ((List UInt8 × Unit) × Unit) :=
  if 0 ≤ n ∧ n ≤ 9223372036854775807 ∧ s.length * n.toNat ≤ 140737488355328 then some ((Lib.repeatL s n.toNat, ()), ()) else none
def strings_Repeat_C : Callee := ⟨[.val .str, .val (.int .i64)], [.val .str], fun x => strings_Repeat x.1 x.2.1⟩
def in64 (n : Int) : Prop := -9223372036854775808 ≤ n ∧ n ≤ 9223372036854775807
instance (n : Int) : Decidable (in64 n) := by unfold in64; infer_instance
def strconv_Itoa (n : Int) : Option ((List UInt8 × Unit) × Unit) := if in64 n then some ((Lib.itoa n, ()), ()) else none
def strconv_Itoa_C : Callee := ⟨[.val (.int .i64)], [.val .str], fun x => strconv_Itoa x.1⟩
def strconv_FormatInt (n b : Int) : Option ((List UInt8 × Unit) × Unit) := if in64 n ∧ b = 10 then some ((Lib.itoa n, ()), ()) else none
def strconv_FormatInt_C : Callee := ⟨[.val (.int .i64), .val (.int .i64)], [.val .str], fun x => strconv_FormatInt x.1 x.2.1⟩
def strings_Trim (s cut : List UInt8) : Option ((List UInt8 × Unit) × Unit) :=
  if s.length ≤ 9223372036854775807 ∧ cut.length < 4294967281 ∧ cut.all (fun b => decide (b.toNat < 128)) = true then some ((Lib.trimS s cut, ()), ()) else none
def strings_Trim_C : Callee := ⟨[.val .str, .val .str], [.val .str], fun x => strings_Trim x.1 x.2.1⟩
def strconv_FormatUint (n b : Int) : Option ((List UInt8 × Unit) × Unit) := if 0 ≤ n ∧ n ≤ 18446744073709551615 ∧ b = 10 then some ((Lib.decDigits n.toNat, ()), ()) else none
def strconv_FormatUint_C : Callee := ⟨[.val (.int .u64), .val (.int .i64)], [.val .str], fun x => strconv_FormatUint x.1 x.2.1⟩
def strconv_Atoi (s : List UInt8) : Option ((Int × Bool × Unit) × Unit) :=
  if s.length ≤ 281474976710656 then
    match Lib.atoiAll s with
    | .ok n => some ((n, false, ()), ())
    | Lib.NumEnd.syntax => some ((0, true, ()), ())
    | .range => some ((Lib.atoiSat s, true, ()), ())
  else none
def strconv_Atoi_C : Callee := ⟨[.val .str], [.val (.int .i64), .val .err], fun x => strconv_Atoi x.1⟩
def strconv_ParseInt (s : List UInt8) (b w : Int) : Option ((Int × Bool × Unit) × Unit) :=
  if b = 10 ∧ w = 64 ∧ s.length ≤ 281474976710656 then
    match Lib.parseIntB 64 s with
    | .ok v => some ((v, false, ()), ())
    | _ => none
  else none
def strconv_ParseInt_C : Callee := ⟨[.val .str, .val (.int .i64), .val (.int .i64)], [.val (.int .i64), .val .err], fun x => strconv_ParseInt x.1 x.2.1 x.2.2.1⟩
/-- A limb as nine digits. -/
def pad9 (y : Int) : List UInt8 := List.replicate (9 - (Lib.decDigits y.toNat).length) 48 ++ Lib.decDigits y.toNat
/-- A natural number's limbs (base 10^9, lowest first) as text. -/
def natText (l : List Int) : List UInt8 :=
  match l.reverse with
  | [] => [48]
  | x :: r => Lib.decDigits x.toNat ++ (r.map pad9).flatten
def n_nat_text (l : List Int) : Option ((List UInt8 × Unit) × Unit) := if l.length ≤ 1000000000000 ∧ l.all (fun x => decide (0 ≤ x ∧ x < 1000000000)) = true then some ((natText l, ()), ()) else none
def n_nat_text_C : Callee := ⟨[.val (.sl (.int .u32))], [.val .str], fun x => n_nat_text x.1⟩
end Go.AM.Num
end
section
namespace Go.AM.Num
set_option maxRecDepth 100000
set_option linter.unusedVariables false
noncomputable section
def l_short_s2 (x : (List (List UInt8)) × Bool × Int × Unit) : Option (Ex × ((List (List UInt8)) × Bool × Int × Unit)) :=
  let l0 := x.1
  let t2 := x.2.1
  let i3 := x.2.2.1
  cond (decide (i3 < (l0.length : Int)))
    (grd (decide (0 ≤ i3) && decide (i3 < l0.length)) (
      cond (decide (((l0.getD i3.toNat ([] : List UInt8)).length : Int) > (50 : Int)))
        (some (Ex.ret, (l0, false, i3, ())))
        (some (Ex.normal, (l0, t2, IntKind.i64.wrap (i3 + (1 : Int)), ())))))
    (some (Ex.exit 0, (l0, t2, i3, ())))
def l_short (l0 : List (List UInt8)) : Option ((Bool × Unit) × Unit) :=
  (loopO l_short_s2 (l0, false, 0, ())).bind fun y1 =>
  cond (Ex.same y1.1 (Ex.exit 0))
    (some ((true, ()), ()))
    (cond (Ex.same y1.1 Ex.ret)
      (some ((y1.2.2.1, ()), ()))
      (none))
def n_figures (s0 : List UInt8) : Option ((Bool × Unit) × Unit) :=
  cond (!(s0 == ([] : List UInt8)))
    ((strings_Trim s0 ([48, 49, 50, 51, 52, 53, 54, 55, 56, 57] : List UInt8)).bind fun r1 =>
    some ((r1.1.1 == ([] : List UInt8), ()), ()))
    (some ((false, ()), ()))
def n_nat_trim_s2 (x : (List Int) × Int × Unit) : Option (Ex × ((List Int) × Int × Unit)) :=
  let a0 := x.1
  let n3 := x.2.1
  cond (decide (n3 > (0 : Int)))
    (grd (decide (0 ≤ IntKind.i64.wrap (n3 - (1 : Int))) && decide (IntKind.i64.wrap (n3 - (1 : Int)) < a0.length)) (
      cond ((a0.getD (IntKind.i64.wrap (n3 - (1 : Int))).toNat (0 : Int)) == (0 : Int))
        (some (Ex.normal, (a0, IntKind.i64.wrap (n3 - (1 : Int)), ())))
        (some (Ex.exit 0, (a0, n3, ())))))
    (some (Ex.exit 0, (a0, n3, ())))
def n_nat_trim (a0 : List Int) : Option (((List Int) × Unit) × Unit) :=
  (loopO n_nat_trim_s2 (a0, (a0.length : Int), ())).bind fun y1 =>
  cond (Ex.same y1.1 (Ex.exit 0))
    (grd (decide (0 ≤ y1.2.2.1) && decide (y1.2.2.1 ≤ y1.2.1.length)) (some ((y1.2.1.take y1.2.2.1.toNat, ()), ())))
    (none)
def n_natOf_s7 (x : (List UInt8) × (List Int) × Int × Int × (List Int) × Int × Int × Unit) : Option (Ex × ((List UInt8) × (List Int) × Int × Int × (List Int) × Int × Int × Unit)) :=
  let s0 := x.1
  let out3 := x.2.1
  let end4 := x.2.2.1
  let v5 := x.2.2.2.1
  let t20 := x.2.2.2.2.1
  let t21 := x.2.2.2.2.2.1
  let t22 := x.2.2.2.2.2.2.1
  cond (decide (t22 < t21))
    (grd (decide (0 ≤ t22) && decide (t22 < t20.length)) (some (Ex.normal, (s0, out3, end4, IntKind.u32.wrap ((IntKind.u32.wrap (v5 * (10 : Int))) + (IntKind.u32.wrap (IntKind.u8.wrap ((t20.getD t22.toNat (0 : Int)) - (48 : Int))))), t20, t21, IntKind.i64.wrap (t22 + (1 : Int)), ()))))
    (some (Ex.exit 2, (s0, out3, end4, v5, t20, t21, t22, ())))
def n_natOf_s3 (x : (List UInt8) × (List Int) × Int × Unit) : Option (Ex × ((List UInt8) × (List Int) × Int × Unit)) :=
  let s0 := x.1
  let out3 := x.2.1
  let end4 := x.2.2.1
  cond (decide (end4 > (0 : Int)))
    (grd (decide (0 ≤ maxA (IntKind.i64.wrap (end4 - (9 : Int))) (0 : Int)) && decide (maxA (IntKind.i64.wrap (end4 - (9 : Int))) (0 : Int) ≤ end4) && decide (end4 ≤ s0.length)) (
      (loopO n_natOf_s7 (s0, out3, end4, 0, ((s0.take end4.toNat).drop (maxA (IntKind.i64.wrap (end4 - (9 : Int))) (0 : Int)).toNat).map fun b => (b.toNat : Int), ((((s0.take end4.toNat).drop (maxA (IntKind.i64.wrap (end4 - (9 : Int))) (0 : Int)).toNat).map fun b => (b.toNat : Int)).length : Int), 0, ())).bind fun y1 =>
      cond (Ex.same y1.1 (Ex.exit 2))
        (grd (decide (y1.2.2.1.length + ([y1.2.2.2.2.1] : List Int).length ≤ maxN)) (some (Ex.normal, (y1.2.1, y1.2.2.1 ++ ([y1.2.2.2.2.1] : List Int), IntKind.i64.wrap (y1.2.2.2.1 - (9 : Int)), ()))))
        (none)))
    (some (Ex.exit 0, (s0, out3, end4, ())))
def n_natOf (s0 : List UInt8) : Option (((List Int) × Unit) × Unit) :=
  (loopO n_natOf_s3 (s0, ([] : List Int), (s0.length : Int), ())).bind fun y1 =>
  cond (Ex.same y1.1 (Ex.exit 0))
    ((n_nat_trim y1.2.2.1).bind fun r2 =>
    some ((r2.1.1, ()), ()))
    (none)
def n_nat_trim_v_s2 (x : (List Int) × Int × Unit) : Option (Ex × ((List Int) × Int × Unit)) :=
  let a0 := x.1
  let n3 := x.2.1
  cond (decide (n3 > (0 : Int)))
    (grd (decide (0 ≤ IntKind.i64.wrap (n3 - (1 : Int))) && decide (IntKind.i64.wrap (n3 - (1 : Int)) < a0.length)) (
      grd (decide ((IntKind.i64.wrap (n3 - (1 : Int))).toNat < a0.length)) (
        cond ((a0.getD ((IntKind.i64.wrap (n3 - (1 : Int))).toNat) (0 : Int)) == (0 : Int))
          (some (Ex.normal, (a0, IntKind.i64.wrap (n3 - (1 : Int)), ())))
          (some (Ex.exit 0, (a0, n3, ()))))))
    (some (Ex.exit 0, (a0, n3, ())))
def n_nat_trim_v (a0 : List Int) : Option ((Nat × Unit) × ((List Int) × Unit)) :=
  (loopO n_nat_trim_v_s2 (a0, (a0.length : Int), ())).bind fun y1 =>
  cond (Ex.same y1.1 (Ex.exit 0))
    (grd (decide (0 ≤ y1.2.2.1) && decide (y1.2.2.1 ≤ y1.2.1.length)) (some ((y1.2.2.1.toNat, ()), y1.2.1, ())))
    (none)
def n_nat_mul_r_s7 (x : (List Int) × (List Int) × Int × Int × Int × (List Int) × Int × Int × (List Int) × Int × Int × Unit) : Option (Ex × ((List Int) × (List Int) × Int × Int × Int × (List Int) × Int × Int × (List Int) × Int × Int × Unit)) :=
  let b1 := x.1
  let out5 := x.2.1
  let i6 := x.2.2.1
  let x7 := x.2.2.2.1
  let carry8 := x.2.2.2.2.1
  let t18 := x.2.2.2.2.2.1
  let t19 := x.2.2.2.2.2.2.1
  let t20 := x.2.2.2.2.2.2.2.1
  let t25 := x.2.2.2.2.2.2.2.2.1
  let t26 := x.2.2.2.2.2.2.2.2.2.1
  let t27 := x.2.2.2.2.2.2.2.2.2.2.1
  cond (decide (t27 < t26))
    (grd (decide (0 ≤ t27) && decide (t27 < t25.length)) (grd (decide (0 ≤ IntKind.i64.wrap (i6 + t27)) && decide (IntKind.i64.wrap (i6 + t27) < out5.length)) (grd (decide ((IntKind.i64.wrap (i6 + t27)).toNat < out5.length)) (grd ((1000000000 : Int) != 0) (grd ((1000000000 : Int) != 0) (grd (decide (0 ≤ IntKind.i64.wrap (i6 + t27)) && decide (IntKind.i64.wrap (i6 + t27) < out5.length)) (grd (decide ((IntKind.i64.wrap (i6 + t27)).toNat < out5.length)) (some (Ex.normal, (b1, out5.set ((IntKind.i64.wrap (i6 + t27)).toNat) (IntKind.u32.wrap ((IntKind.u64.wrap ((IntKind.u64.wrap ((IntKind.u64.wrap (out5.getD ((IntKind.i64.wrap (i6 + t27)).toNat) (0 : Int))) + (IntKind.u64.wrap ((IntKind.u64.wrap (x7)) * (IntKind.u64.wrap (t25.getD t27.toNat (0 : Int))))))) + carry8)).tmod 1000000000)), i6, x7, IntKind.u64.wrap ((IntKind.u64.wrap ((IntKind.u64.wrap ((IntKind.u64.wrap (out5.getD ((IntKind.i64.wrap (i6 + t27)).toNat) (0 : Int))) + (IntKind.u64.wrap ((IntKind.u64.wrap (x7)) * (IntKind.u64.wrap (t25.getD t27.toNat (0 : Int))))))) + carry8)).tdiv 1000000000), t18, t19, t20, t25, t26, IntKind.i64.wrap (t27 + (1 : Int)), ()))))))))))
    (some (Ex.exit 2, (b1, out5, i6, x7, carry8, t18, t19, t20, t25, t26, t27, ())))
def n_nat_mul_r_s3 (x : (List Int) × (List Int) × (List Int) × Int × Int × Unit) : Option (Ex × ((List Int) × (List Int) × (List Int) × Int × Int × Unit)) :=
  let b1 := x.1
  let out5 := x.2.1
  let t18 := x.2.2.1
  let t19 := x.2.2.2.1
  let t20 := x.2.2.2.2.1
  cond (decide (t20 < t19))
    (grd (decide (0 ≤ t20) && decide (t20 < t18.length)) (
      (loopO n_nat_mul_r_s7 (b1, out5, t20, t18.getD t20.toNat (0 : Int), 0, t18, t19, t20, b1, (b1.length : Int), 0, ())).bind fun y1 =>
      cond (Ex.same y1.1 (Ex.exit 2))
        (grd (decide (0 ≤ IntKind.i64.wrap (y1.2.2.2.1 + (y1.2.1.length : Int))) && decide (IntKind.i64.wrap (y1.2.2.2.1 + (y1.2.1.length : Int)) < y1.2.2.1.length)) (grd (decide ((IntKind.i64.wrap (y1.2.2.2.1 + (y1.2.1.length : Int))).toNat < y1.2.2.1.length)) (some (Ex.normal, (y1.2.1, y1.2.2.1.set ((IntKind.i64.wrap (y1.2.2.2.1 + (y1.2.1.length : Int))).toNat) (IntKind.u32.wrap (y1.2.2.2.2.2.1)), y1.2.2.2.2.2.2.1, y1.2.2.2.2.2.2.2.1, IntKind.i64.wrap (y1.2.2.2.2.2.2.2.2.1 + (1 : Int)), ())))))
        (none)))
    (some (Ex.exit 0, (b1, out5, t18, t19, t20, ())))
def n_nat_mul_r (a0 : List Int) (b1 : List Int) : Option ((List Int × Unit) × Unit) :=
  grd (decide (0 ≤ IntKind.i64.wrap ((a0.length : Int) + (b1.length : Int))) && decide (IntKind.i64.wrap ((a0.length : Int) + (b1.length : Int)) ≤ IntKind.i64.wrap ((a0.length : Int) + (b1.length : Int))) && decide (IntKind.i64.wrap ((a0.length : Int) + (b1.length : Int)) ≤ maxN)) (
    (loopO n_nat_mul_r_s3 (b1, List.replicate (IntKind.i64.wrap ((a0.length : Int) + (b1.length : Int))).toNat (0 : Int), a0, (a0.length : Int), 0, ())).bind fun y1 =>
    cond (Ex.same y1.1 (Ex.exit 0))
      ((n_nat_trim_v y1.2.2.1).bind fun r2 =>
      some ((r2.2.1.take r2.1.1, ()), ()))
      (none))
def n_nat_cmp_s4 (x : (List Int) × (List Int) × Int × Int × Unit) : Option (Ex × ((List Int) × (List Int) × Int × Int × Unit)) :=
  let a0 := x.1
  let b1 := x.2.1
  let t4 := x.2.2.1
  let i5 := x.2.2.2.1
  cond (decide (i5 ≥ (0 : Int)))
    (grd (decide (0 ≤ i5) && decide (i5 < a0.length)) (
      grd (decide (0 ≤ i5) && decide (i5 < b1.length)) (
        cond ((a0.getD i5.toNat (0 : Int)) != (b1.getD i5.toNat (0 : Int)))
          (grd (decide (0 ≤ i5) && decide (i5 < a0.length)) (grd (decide (0 ≤ i5) && decide (i5 < b1.length)) (some (Ex.ret, (a0, b1, IntKind.i64.wrap ((IntKind.i64.wrap (a0.getD i5.toNat (0 : Int))) - (IntKind.i64.wrap (b1.getD i5.toNat (0 : Int)))), i5, ())))))
          (some (Ex.normal, (a0, b1, t4, IntKind.i64.wrap (i5 - (1 : Int)), ()))))))
    (some (Ex.exit 0, (a0, b1, t4, i5, ())))
def n_nat_cmp (a0 : List Int) (b1 : List Int) : Option ((Int × Unit) × Unit) :=
  cond ((a0.length : Int) != (b1.length : Int))
    (some ((IntKind.i64.wrap ((a0.length : Int) - (b1.length : Int)), ()), ()))
    ((loopO n_nat_cmp_s4 (a0, b1, 0, IntKind.i64.wrap ((a0.length : Int) - (1 : Int)), ())).bind fun y1 =>
    cond (Ex.same y1.1 (Ex.exit 0))
      (some ((0, ()), ()))
      (cond (Ex.same y1.1 Ex.ret)
        (some ((y1.2.2.2.1, ()), ()))
        (none)))
def n_nat_quoLimb_s4 (x : (List Int) × Int × (List Int) × Int × Int × Unit) : Option (Ex × ((List Int) × Int × (List Int) × Int × Int × Unit)) :=
  let a0 := x.1
  let b1 := x.2.1
  let q6 := x.2.2.1
  let rest7 := x.2.2.2.1
  let i8 := x.2.2.2.2.1
  cond (decide (i8 ≥ (0 : Int)))
    (grd (decide (0 ≤ i8) && decide (i8 < a0.length)) (grd ((IntKind.u64.wrap (b1)) != 0) (grd ((IntKind.u64.wrap (b1)) != 0) (grd (decide (0 ≤ i8) && decide (i8 < q6.length)) (grd (decide (i8.toNat < q6.length)) (some (Ex.normal, (a0, b1, q6.set i8.toNat (IntKind.u32.wrap (IntKind.u64.wrap ((IntKind.u64.wrap ((IntKind.u64.wrap (rest7 * (1000000000 : Int))) + (IntKind.u64.wrap (a0.getD i8.toNat (0 : Int))))).tdiv (IntKind.u64.wrap (b1))))), (IntKind.u64.wrap ((IntKind.u64.wrap (rest7 * (1000000000 : Int))) + (IntKind.u64.wrap (a0.getD i8.toNat (0 : Int))))).tmod (IntKind.u64.wrap (b1)), IntKind.i64.wrap (i8 - (1 : Int)), ()))))))))
    (some (Ex.exit 0, (a0, b1, q6, rest7, i8, ())))
def n_nat_quoLimb (a0 : List Int) (b1 : Int) : Option (((List Int) × (List Int) × Unit) × Unit) :=
  grd (decide (0 ≤ (a0.length : Int)) && decide ((a0.length : Int) ≤ (a0.length : Int)) && decide ((a0.length : Int) ≤ maxN)) (
    (loopO n_nat_quoLimb_s4 (a0, b1, List.replicate (a0.length : Int).toNat (0 : Int), 0, IntKind.i64.wrap ((a0.length : Int) - (1 : Int)), ())).bind fun y1 =>
    cond (Ex.same y1.1 (Ex.exit 0))
      ((n_nat_trim y1.2.2.2.1).bind fun r2 =>
      (n_nat_trim ([IntKind.u32.wrap (y1.2.2.2.2.1)] : List Int)).bind fun r3 =>
      some ((r2.1.1, r3.1.1, ()), ()))
      (none))
def n_subtract_s3 (x : (List Int) × (List Int) × Int × Int × Int × Int × Int × Unit) : Option (Ex × ((List Int) × (List Int) × Int × Int × Int × Int × Int × Unit)) :=
  let u0 := x.1
  let v1 := x.2.1
  let times2 := x.2.2.1
  let carry7 := x.2.2.2.1
  let borrow8 := x.2.2.2.2.1
  let t12 := x.2.2.2.2.2.1
  let t13 := x.2.2.2.2.2.2.1
  cond (decide (t13 < t12))
    (cond (decide (t13 < (v1.length : Int)))
      (grd (decide (0 ≤ t13) && decide (t13 < v1.length)) (
        grd (decide (0 ≤ t13) && decide (t13 < u0.length)) (
          grd (decide (t13.toNat < u0.length)) (
            grd ((1000000000 : Int) != 0) (
              grd ((1000000000 : Int) != 0) (
                cond (decide ((IntKind.i64.wrap ((IntKind.i64.wrap ((IntKind.i64.wrap (u0.getD t13.toNat (0 : Int))) - borrow8)) - (IntKind.i64.wrap ((IntKind.u64.wrap (carry7 + (IntKind.u64.wrap (times2 * (IntKind.u64.wrap (v1.getD t13.toNat (0 : Int))))))).tmod 1000000000)))) < (0 : Int)))
                  (grd (decide (0 ≤ t13) && decide (t13 < u0.length)) (grd (decide (t13.toNat < u0.length)) (some (Ex.normal, (u0.set t13.toNat (IntKind.u32.wrap (IntKind.i64.wrap ((IntKind.i64.wrap ((IntKind.i64.wrap ((IntKind.i64.wrap (u0.getD t13.toNat (0 : Int))) - borrow8)) - (IntKind.i64.wrap ((IntKind.u64.wrap (carry7 + (IntKind.u64.wrap (times2 * (IntKind.u64.wrap (v1.getD t13.toNat (0 : Int))))))).tmod 1000000000)))) + (1000000000 : Int)))), v1, times2, IntKind.u64.wrap ((IntKind.u64.wrap (carry7 + (IntKind.u64.wrap (times2 * (IntKind.u64.wrap (v1.getD t13.toNat (0 : Int))))))).tdiv 1000000000), 1, t12, IntKind.i64.wrap (t13 + (1 : Int)), ())))))
                  (grd (decide (0 ≤ t13) && decide (t13 < u0.length)) (grd (decide (t13.toNat < u0.length)) (some (Ex.normal, (u0.set t13.toNat (IntKind.u32.wrap (IntKind.i64.wrap ((IntKind.i64.wrap ((IntKind.i64.wrap (u0.getD t13.toNat (0 : Int))) - borrow8)) - (IntKind.i64.wrap ((IntKind.u64.wrap (carry7 + (IntKind.u64.wrap (times2 * (IntKind.u64.wrap (v1.getD t13.toNat (0 : Int))))))).tmod 1000000000))))), v1, times2, IntKind.u64.wrap ((IntKind.u64.wrap (carry7 + (IntKind.u64.wrap (times2 * (IntKind.u64.wrap (v1.getD t13.toNat (0 : Int))))))).tdiv 1000000000), 0, t12, IntKind.i64.wrap (t13 + (1 : Int)), ())))))))))))
      (grd (decide (0 ≤ t13) && decide (t13 < u0.length)) (
        grd (decide (t13.toNat < u0.length)) (
          grd ((1000000000 : Int) != 0) (
            grd ((1000000000 : Int) != 0) (
              cond (decide ((IntKind.i64.wrap ((IntKind.i64.wrap ((IntKind.i64.wrap (u0.getD t13.toNat (0 : Int))) - borrow8)) - (IntKind.i64.wrap (carry7.tmod 1000000000)))) < (0 : Int)))
                (grd (decide (0 ≤ t13) && decide (t13 < u0.length)) (grd (decide (t13.toNat < u0.length)) (some (Ex.normal, (u0.set t13.toNat (IntKind.u32.wrap (IntKind.i64.wrap ((IntKind.i64.wrap ((IntKind.i64.wrap ((IntKind.i64.wrap (u0.getD t13.toNat (0 : Int))) - borrow8)) - (IntKind.i64.wrap (carry7.tmod 1000000000)))) + (1000000000 : Int)))), v1, times2, IntKind.u64.wrap (carry7.tdiv 1000000000), 1, t12, IntKind.i64.wrap (t13 + (1 : Int)), ())))))
                (grd (decide (0 ≤ t13) && decide (t13 < u0.length)) (grd (decide (t13.toNat < u0.length)) (some (Ex.normal, (u0.set t13.toNat (IntKind.u32.wrap (IntKind.i64.wrap ((IntKind.i64.wrap ((IntKind.i64.wrap (u0.getD t13.toNat (0 : Int))) - borrow8)) - (IntKind.i64.wrap (carry7.tmod 1000000000))))), v1, times2, IntKind.u64.wrap (carry7.tdiv 1000000000), 0, t12, IntKind.i64.wrap (t13 + (1 : Int)), ())))))))))))
    (some (Ex.exit 0, (u0, v1, times2, carry7, borrow8, t12, t13, ())))
def n_subtract (u0 : List Int) (v1 : List Int) (times2 : Int) : Option ((Bool × Unit) × ((List Int) × Unit)) :=
  (loopO n_subtract_s3 (u0, v1, times2, 0, 0, (u0.length : Int), 0, ())).bind fun y1 =>
  cond (Ex.same y1.1 (Ex.exit 0))
    (some ((decide (y1.2.2.2.2.2.1 > (0 : Int)), ()), y1.2.1, ()))
    (none)
def n_nat_at (a0 : List Int) (i1 : Int) : Option ((Int × Unit) × Unit) :=
  cond (decide (i1 ≥ (a0.length : Int)))
    (some ((0, ()), ()))
    (grd (decide (0 ≤ i1) && decide (i1 < a0.length)) (some ((a0.getD i1.toNat (0 : Int), ()), ())))
def n_restore_s2 (x : (List Int) × (List Int) × Int × Int × Int × Unit) : Option (Ex × ((List Int) × (List Int) × Int × Int × Int × Unit)) :=
  let u0 := x.1
  let v1 := x.2.1
  let carry4 := x.2.2.1
  let t8 := x.2.2.2.1
  let t9 := x.2.2.2.2.1
  cond (decide (t9 < t8))
    (grd (decide (0 ≤ t9) && decide (t9 < u0.length)) (
      grd (decide (t9.toNat < u0.length)) (
        (n_nat_at v1 t9).bind fun r1 =>
        grd ((1000000000 : Int) != 0) (grd ((1000000000 : Int) != 0) (grd (decide (0 ≤ t9) && decide (t9 < u0.length)) (grd (decide (t9.toNat < u0.length)) (some (Ex.normal, (u0.set t9.toNat ((IntKind.u32.wrap ((IntKind.u32.wrap ((u0.getD t9.toNat (0 : Int)) + r1.1.1)) + carry4)).tmod 1000000000), v1, IntKind.u32.wrap ((IntKind.u32.wrap ((IntKind.u32.wrap ((u0.getD t9.toNat (0 : Int)) + r1.1.1)) + carry4)).tdiv 1000000000), t8, IntKind.i64.wrap (t9 + (1 : Int)), ())))))))))
    (some (Ex.exit 0, (u0, v1, carry4, t8, t9, ())))
def n_restore (u0 : List Int) (v1 : List Int) : Option ((Unit) × ((List Int) × Unit)) :=
  (loopO n_restore_s2 (u0, v1, 0, (u0.length : Int), 0, ())).bind fun y1 =>
  cond (Ex.same y1.1 (Ex.exit 0))
    (some ((), y1.2.1, ()))
    (none)
def n_reduce_s4 (x : (List Int) × (List Int) × Int × Int × Int × Int × Unit) : Option (Ex × ((List Int) × (List Int) × Int × Int × Int × Int × Unit)) :=
  let u0 := x.1
  let v1 := x.2.1
  let n5 := x.2.2.1
  let first7 := x.2.2.2.1
  let guess8 := x.2.2.2.2.1
  let rest9 := x.2.2.2.2.2.1
  cond (decide (guess8 ≥ (1000000000 : Int)))
    (cond (decide ((IntKind.u64.wrap (rest9 + first7)) ≥ (1000000000 : Int)))
      (some (Ex.exit 0, (u0, v1, n5, first7, IntKind.u64.wrap (guess8 - (1 : Int)), IntKind.u64.wrap (rest9 + first7), ())))
      (some (Ex.normal, (u0, v1, n5, first7, IntKind.u64.wrap (guess8 - (1 : Int)), IntKind.u64.wrap (rest9 + first7), ()))))
    (grd (decide (0 ≤ IntKind.i64.wrap (n5 - (2 : Int))) && decide (IntKind.i64.wrap (n5 - (2 : Int)) < v1.length)) (
      grd (decide (0 ≤ IntKind.i64.wrap (n5 - (2 : Int))) && decide (IntKind.i64.wrap (n5 - (2 : Int)) < u0.length)) (
        grd (decide ((IntKind.i64.wrap (n5 - (2 : Int))).toNat < u0.length)) (
          cond (decide ((IntKind.u64.wrap (guess8 * (IntKind.u64.wrap (v1.getD (IntKind.i64.wrap (n5 - (2 : Int))).toNat (0 : Int))))) > (IntKind.u64.wrap ((IntKind.u64.wrap (rest9 * (1000000000 : Int))) + (IntKind.u64.wrap (u0.getD ((IntKind.i64.wrap (n5 - (2 : Int))).toNat) (0 : Int)))))))
            (cond (decide ((IntKind.u64.wrap (rest9 + first7)) ≥ (1000000000 : Int)))
              (some (Ex.exit 0, (u0, v1, n5, first7, IntKind.u64.wrap (guess8 - (1 : Int)), IntKind.u64.wrap (rest9 + first7), ())))
              (some (Ex.normal, (u0, v1, n5, first7, IntKind.u64.wrap (guess8 - (1 : Int)), IntKind.u64.wrap (rest9 + first7), ()))))
            (some (Ex.exit 0, (u0, v1, n5, first7, guess8, rest9, ())))))))
def n_reduce (u0 : List Int) (v1 : List Int) : Option ((Int × Unit) × ((List Int) × Unit)) :=
  grd (decide (0 ≤ (v1.length : Int)) && decide ((v1.length : Int) < u0.length)) (
    grd (decide ((v1.length : Int).toNat < u0.length)) (
      grd (decide (0 ≤ IntKind.i64.wrap ((v1.length : Int) - (1 : Int))) && decide (IntKind.i64.wrap ((v1.length : Int) - (1 : Int)) < u0.length)) (
        grd (decide ((IntKind.i64.wrap ((v1.length : Int) - (1 : Int))).toNat < u0.length)) (
          grd (decide (0 ≤ IntKind.i64.wrap ((v1.length : Int) - (1 : Int))) && decide (IntKind.i64.wrap ((v1.length : Int) - (1 : Int)) < v1.length)) (
            grd ((IntKind.u64.wrap (v1.getD (IntKind.i64.wrap ((v1.length : Int) - (1 : Int))).toNat (0 : Int))) != 0) (
              grd ((IntKind.u64.wrap (v1.getD (IntKind.i64.wrap ((v1.length : Int) - (1 : Int))).toNat (0 : Int))) != 0) (
                (loopO n_reduce_s4 (u0, v1, (v1.length : Int), IntKind.u64.wrap (v1.getD (IntKind.i64.wrap ((v1.length : Int) - (1 : Int))).toNat (0 : Int)), IntKind.u64.wrap ((IntKind.u64.wrap ((IntKind.u64.wrap ((IntKind.u64.wrap (u0.getD ((v1.length : Int).toNat) (0 : Int))) * (1000000000 : Int))) + (IntKind.u64.wrap (u0.getD ((IntKind.i64.wrap ((v1.length : Int) - (1 : Int))).toNat) (0 : Int))))).tdiv (IntKind.u64.wrap (v1.getD (IntKind.i64.wrap ((v1.length : Int) - (1 : Int))).toNat (0 : Int)))), (IntKind.u64.wrap ((IntKind.u64.wrap ((IntKind.u64.wrap (u0.getD ((v1.length : Int).toNat) (0 : Int))) * (1000000000 : Int))) + (IntKind.u64.wrap (u0.getD ((IntKind.i64.wrap ((v1.length : Int) - (1 : Int))).toNat) (0 : Int))))).tmod (IntKind.u64.wrap (v1.getD (IntKind.i64.wrap ((v1.length : Int) - (1 : Int))).toNat (0 : Int))), ())).bind fun y1 =>
                cond (Ex.same y1.1 (Ex.exit 0))
                  ((n_subtract y1.2.1 y1.2.2.1 y1.2.2.2.2.2.1).bind fun r2 =>
                  cond (r2.1.1)
                    ((n_restore r2.2.1 y1.2.2.1).bind fun r3 =>
                    some ((IntKind.u32.wrap (IntKind.u64.wrap (y1.2.2.2.2.2.1 - (1 : Int))), ()), r3.2.1, ()))
                    (some ((IntKind.u32.wrap (y1.2.2.2.2.2.1), ()), r2.2.1, ())))
                  (none))))))))
def n_nat_quoRem_s7 (x : (List Int) × (List Int) × (List Int) × (List Int) × Unit) : Option (Ex × ((List Int) × (List Int) × (List Int) × (List Int) × Unit)) :=
  let a0 := x.1
  let scale6 := x.2.1
  let u7 := x.2.2.1
  let v8 := x.2.2.2.1
  cond (decide ((u7.length : Int) ≤ (a0.length : Int)))
    (grd (decide (u7.length + ([0] : List Int).length ≤ maxN)) (some (Ex.normal, (a0, scale6, u7 ++ ([0] : List Int), v8, ()))))
    (some (Ex.exit 1, (a0, scale6, u7, v8, ())))
def n_nat_quoRem_s11 (x : (List Int) × (List Int) × (List Int) × (List Int) × Int × Unit) : Option (Ex × ((List Int) × (List Int) × (List Int) × (List Int) × Int × Unit)) :=
  let scale6 := x.1
  let u7 := x.2.1
  let v8 := x.2.2.1
  let q9 := x.2.2.2.1
  let j10 := x.2.2.2.2.1
  cond (decide (j10 ≥ (0 : Int)))
    (grd (decide (0 ≤ j10) && decide (j10 ≤ IntKind.i64.wrap ((IntKind.i64.wrap (j10 + (v8.length : Int))) + (1 : Int))) && decide (IntKind.i64.wrap ((IntKind.i64.wrap (j10 + (v8.length : Int))) + (1 : Int)) ≤ u7.length)) (
      (n_reduce ((u7.drop j10.toNat).take ((IntKind.i64.wrap ((IntKind.i64.wrap (j10 + (v8.length : Int))) + (1 : Int))).toNat - j10.toNat)) v8).bind fun r1 =>
      grd (decide (0 ≤ j10) && decide (j10 < q9.length)) (grd (decide (j10.toNat < q9.length)) (some (Ex.normal, (scale6, u7.take j10.toNat ++ r1.2.1 ++ u7.drop (j10.toNat + ((IntKind.i64.wrap ((IntKind.i64.wrap (j10 + (v8.length : Int))) + (1 : Int))).toNat - j10.toNat)), v8, q9.set j10.toNat r1.1.1, IntKind.i64.wrap (j10 - (1 : Int)), ()))))))
    (some (Ex.exit 3, (scale6, u7, v8, q9, j10, ())))
def n_nat_quoRem (a0 : List Int) (b1 : List Int) : Option (((List Int) × (List Int) × Unit) × Unit) :=
  (n_nat_cmp a0 b1).bind fun r1 =>
  cond (decide (r1.1.1 < (0 : Int)))
    (some ((([] : List Int), a0, ()), ()))
    (cond ((b1.length : Int) == (1 : Int))
      (grd (decide (0 ≤ (0 : Int)) && decide ((0 : Int) < b1.length)) (
        (n_nat_quoLimb a0 (b1.getD (0 : Int).toNat (0 : Int))).bind fun r2 =>
        some ((r2.1.1, r2.1.2.1, ()), ())))
      (grd (decide (0 ≤ IntKind.i64.wrap ((b1.length : Int) - (1 : Int))) && decide (IntKind.i64.wrap ((b1.length : Int) - (1 : Int)) < b1.length)) (
        grd ((IntKind.u64.wrap ((IntKind.u64.wrap (b1.getD (IntKind.i64.wrap ((b1.length : Int) - (1 : Int))).toNat (0 : Int))) + (1 : Int))) != 0) (
          (n_nat_mul_r a0 ([IntKind.u32.wrap (IntKind.u64.wrap ((1000000000 : Int).tdiv (IntKind.u64.wrap ((IntKind.u64.wrap (b1.getD (IntKind.i64.wrap ((b1.length : Int) - (1 : Int))).toNat (0 : Int))) + (1 : Int)))))] : List Int)).bind fun r3 =>
          (n_nat_mul_r b1 ([IntKind.u32.wrap (IntKind.u64.wrap ((1000000000 : Int).tdiv (IntKind.u64.wrap ((IntKind.u64.wrap (b1.getD (IntKind.i64.wrap ((b1.length : Int) - (1 : Int))).toNat (0 : Int))) + (1 : Int)))))] : List Int)).bind fun r4 =>
          (loopO n_nat_quoRem_s7 (a0, ([IntKind.u32.wrap (IntKind.u64.wrap ((1000000000 : Int).tdiv (IntKind.u64.wrap ((IntKind.u64.wrap (b1.getD (IntKind.i64.wrap ((b1.length : Int) - (1 : Int))).toNat (0 : Int))) + (1 : Int)))))] : List Int), r3.1.1, r4.1.1, ())).bind fun y5 =>
          cond (Ex.same y5.1 (Ex.exit 1))
            (grd (decide (0 ≤ IntKind.i64.wrap ((y5.2.2.2.1.length : Int) - (y5.2.2.2.2.1.length : Int))) && decide (IntKind.i64.wrap ((y5.2.2.2.1.length : Int) - (y5.2.2.2.2.1.length : Int)) ≤ IntKind.i64.wrap ((y5.2.2.2.1.length : Int) - (y5.2.2.2.2.1.length : Int))) && decide (IntKind.i64.wrap ((y5.2.2.2.1.length : Int) - (y5.2.2.2.2.1.length : Int)) ≤ maxN)) (
              (loopO n_nat_quoRem_s11 (y5.2.2.1, y5.2.2.2.1, y5.2.2.2.2.1, List.replicate (IntKind.i64.wrap ((y5.2.2.2.1.length : Int) - (y5.2.2.2.2.1.length : Int))).toNat (0 : Int), IntKind.i64.wrap (((List.replicate (IntKind.i64.wrap ((y5.2.2.2.1.length : Int) - (y5.2.2.2.2.1.length : Int))).toNat (0 : Int)).length : Int) - (1 : Int)), ())).bind fun y6 =>
              cond (Ex.same y6.1 (Ex.exit 3))
                ((n_nat_trim y6.2.2.1).bind fun r7 =>
                grd (decide (0 ≤ (0 : Int)) && decide ((0 : Int) < y6.2.1.length)) (
                  (n_nat_quoLimb r7.1.1 (y6.2.1.getD (0 : Int).toNat (0 : Int))).bind fun r8 =>
                  (n_nat_trim y6.2.2.2.2.1).bind fun r9 =>
                  some ((r9.1.1, r8.1.1, ()), ())))
                (none)))
            (none)))))
def n_gcd_s1 (x : (List Int) × (List Int) × Unit) : Option (Ex × ((List Int) × (List Int) × Unit)) :=
  let a0 := x.1
  let b1 := x.2.1
  cond (decide ((b1.length : Int) > (0 : Int)))
    ((n_nat_quoRem a0 b1).bind fun r1 =>
    some (Ex.normal, (b1, r1.1.2.1, ())))
    (some (Ex.exit 0, (a0, b1, ())))
def n_gcd (a0 : List Int) (b1 : List Int) : Option (((List Int) × Unit) × Unit) :=
  (loopO n_gcd_s1 (a0, b1, ())).bind fun y1 =>
  cond (Ex.same y1.1 (Ex.exit 0))
    (some ((y1.2.1, ()), ()))
    (none)
def n_nat_one (a0 : List Int) : Option ((Bool × Unit) × Unit) :=
  cond ((a0.length : Int) == (1 : Int))
    (grd (decide (0 ≤ (0 : Int)) && decide ((0 : Int) < a0.length)) (some (((a0.getD (0 : Int).toNat (0 : Int)) == (1 : Int), ()), ())))
    (some ((false, ()), ()))
def n_lowest (neg0 : Bool) (num1 : List Int) (den2 : List Int) : Option (((Bool × (List Int) × List Int) × Unit) × Unit) :=
  (n_gcd num1 den2).bind fun r1 =>
  (n_nat_one r1.1.1).bind fun r2 =>
  cond (!r2.1.1)
    ((n_nat_quoRem num1 r1.1.1).bind fun r3 =>
    (n_nat_quoRem den2 r1.1.1).bind fun r4 =>
    some (((neg0, r3.1.1, r4.1.1), ()), ()))
    (some (((neg0, num1, den2), ()), ()))
def n_rat_text (x0 : Bool × (List Int) × List Int) : Option (((List UInt8) × Unit) × Unit) :=
  (n_nat_text x0.2.1).bind fun r1 =>
  cond (x0.1)
    (cond (decide ((x0.2.1.length : Int) > (0 : Int)))
      (grd (decide (([45] : List UInt8).length + r1.1.1.length ≤ maxS)) (
        (n_nat_one x0.2.2).bind fun r2 =>
        cond (!r2.1.1)
          ((n_nat_text x0.2.2).bind fun r3 =>
          grd (decide (([47] : List UInt8).length + r3.1.1.length ≤ maxS)) (grd (decide ((([45] : List UInt8) ++ r1.1.1).length + (([47] : List UInt8) ++ r3.1.1).length ≤ maxS)) (some (((([45] : List UInt8) ++ r1.1.1) ++ (([47] : List UInt8) ++ r3.1.1), ()), ()))))
          (some ((([45] : List UInt8) ++ r1.1.1, ()), ()))))
      ((n_nat_one x0.2.2).bind fun r4 =>
      cond (!r4.1.1)
        ((n_nat_text x0.2.2).bind fun r5 =>
        grd (decide (([47] : List UInt8).length + r5.1.1.length ≤ maxS)) (grd (decide (r1.1.1.length + (([47] : List UInt8) ++ r5.1.1).length ≤ maxS)) (some ((r1.1.1 ++ (([47] : List UInt8) ++ r5.1.1), ()), ()))))
        (some ((r1.1.1, ()), ()))))
    ((n_nat_one x0.2.2).bind fun r6 =>
    cond (!r6.1.1)
      ((n_nat_text x0.2.2).bind fun r7 =>
      grd (decide (([47] : List UInt8).length + r7.1.1.length ≤ maxS)) (grd (decide (r1.1.1.length + (([47] : List UInt8) ++ r7.1.1).length ≤ maxS)) (some ((r1.1.1 ++ (([47] : List UInt8) ++ r7.1.1), ()), ()))))
      (some ((r1.1.1, ()), ())))
def n_Parse (s0 : List UInt8) : Option (((List UInt8) × Bool × Unit) × Unit) :=
  (strings_CutPrefix s0 ([45] : List UInt8)).bind fun r1 =>
  (strings_Cut r1.1.1 ([46] : List UInt8)).bind fun r2 =>
  (n_figures r2.1.1).bind fun r3 =>
  cond (!r3.1.1)
    (some ((([] : List UInt8), false, ()), ()))
    (cond (r2.1.2.2.1)
      ((n_figures r2.1.2.1).bind fun r4 =>
      cond (!r4.1.1)
        (some ((([] : List UInt8), false, ()), ()))
        (grd (decide (r2.1.1.length + r2.1.2.1.length ≤ maxS)) (
          (n_natOf (r2.1.1 ++ r2.1.2.1)).bind fun r5 =>
          (strings_Repeat ([48] : List UInt8) (r2.1.2.1.length : Int)).bind fun r6 =>
          grd (decide (([49] : List UInt8).length + r6.1.1.length ≤ maxS)) (
            (n_natOf (([49] : List UInt8) ++ r6.1.1)).bind fun r7 =>
            (n_lowest r1.1.2.1 r5.1.1 r7.1.1).bind fun r8 =>
            (n_rat_text (r8.1.1.1, r8.1.1.2.1, r8.1.1.2.2)).bind fun r9 =>
            some ((r9.1.1, true, ()), ())))))
      (grd (decide (r2.1.1.length + r2.1.2.1.length ≤ maxS)) (
        (n_natOf (r2.1.1 ++ r2.1.2.1)).bind fun r10 =>
        (strings_Repeat ([48] : List UInt8) (r2.1.2.1.length : Int)).bind fun r11 =>
        grd (decide (([49] : List UInt8).length + r11.1.1.length ≤ maxS)) (
          (n_natOf (([49] : List UInt8) ++ r11.1.1)).bind fun r12 =>
          (n_lowest r1.1.2.1 r10.1.1 r12.1.1).bind fun r13 =>
          (n_rat_text (r13.1.1.1, r13.1.1.2.1, r13.1.1.2.2)).bind fun r14 =>
          some ((r14.1.1, true, ()), ())))))
def n_divisor_s1 (x : Int × Int × Unit) : Option (Ex × (Int × Int × Unit)) :=
  let a0 := x.1
  let b1 := x.2.1
  cond (b1 != (0 : Int))
    (grd (b1 != 0) (some (Ex.normal, (b1, a0.tmod b1, ()))))
    (some (Ex.exit 0, (a0, b1, ())))
def n_divisor (a0 : Int) (b1 : Int) : Option ((Int × Unit) × Unit) :=
  (loopO n_divisor_s1 (a0, b1, ())).bind fun y1 =>
  cond (Ex.same y1.1 (Ex.exit 0))
    (some ((y1.2.1, ()), ()))
    (none)
def n_fraction (n0 : Int) (d1 : Int) : Option (((List UInt8) × Unit) × Unit) :=
  cond (decide (d1 < (0 : Int)))
    ((n_divisor (maxA (IntKind.i64.wrap (0 - n0)) (IntKind.i64.wrap (0 - (IntKind.i64.wrap (0 - n0))))) (IntKind.i64.wrap (0 - d1))).bind fun r1 =>
    grd (r1.1.1 != 0) (
      grd (r1.1.1 != 0) (
        (strconv_FormatInt (IntKind.i64.wrap ((IntKind.i64.wrap (0 - n0)).tdiv r1.1.1)) 10).bind fun r2 =>
        cond (decide ((IntKind.i64.wrap ((IntKind.i64.wrap (0 - d1)).tdiv r1.1.1)) > (1 : Int)))
          ((strconv_FormatInt (IntKind.i64.wrap ((IntKind.i64.wrap (0 - d1)).tdiv r1.1.1)) 10).bind fun r3 =>
          grd (decide (([47] : List UInt8).length + r3.1.1.length ≤ maxS)) (grd (decide (r2.1.1.length + (([47] : List UInt8) ++ r3.1.1).length ≤ maxS)) (some ((r2.1.1 ++ (([47] : List UInt8) ++ r3.1.1), ()), ()))))
          (some ((r2.1.1, ()), ())))))
    ((n_divisor (maxA n0 (IntKind.i64.wrap (0 - n0))) d1).bind fun r4 =>
    grd (r4.1.1 != 0) (
      grd (r4.1.1 != 0) (
        (strconv_FormatInt (IntKind.i64.wrap (n0.tdiv r4.1.1)) 10).bind fun r5 =>
        cond (decide ((IntKind.i64.wrap (d1.tdiv r4.1.1)) > (1 : Int)))
          ((strconv_FormatInt (IntKind.i64.wrap (d1.tdiv r4.1.1)) 10).bind fun r6 =>
          grd (decide (([47] : List UInt8).length + r6.1.1.length ≤ maxS)) (grd (decide (r5.1.1.length + (([47] : List UInt8) ++ r6.1.1).length ≤ maxS)) (some ((r5.1.1 ++ (([47] : List UInt8) ++ r6.1.1), ()), ()))))
          (some ((r5.1.1, ()), ())))))
def n_Add_1 (x0 : Int × Int) (y1 : Int × Int) : Option (((List UInt8) × Unit) × Unit) :=
  (n_fraction (IntKind.i64.wrap ((IntKind.i64.wrap (x0.1 * y1.2)) + (IntKind.i64.wrap (y1.1 * x0.2)))) (IntKind.i64.wrap (x0.2 * y1.2))).bind fun r1 =>
  some ((r1.1.1, ()), ())
def n_nat_mul_s7 (x : (List Int) × (List Int) × Int × Int × Int × (List Int) × Int × Int × (List Int) × Int × Int × Unit) : Option (Ex × ((List Int) × (List Int) × Int × Int × Int × (List Int) × Int × Int × (List Int) × Int × Int × Unit)) :=
  let b1 := x.1
  let out5 := x.2.1
  let i6 := x.2.2.1
  let x7 := x.2.2.2.1
  let carry8 := x.2.2.2.2.1
  let t18 := x.2.2.2.2.2.1
  let t19 := x.2.2.2.2.2.2.1
  let t20 := x.2.2.2.2.2.2.2.1
  let t25 := x.2.2.2.2.2.2.2.2.1
  let t26 := x.2.2.2.2.2.2.2.2.2.1
  let t27 := x.2.2.2.2.2.2.2.2.2.2.1
  cond (decide (t27 < t26))
    (grd (decide (0 ≤ t27) && decide (t27 < t25.length)) (grd (decide (0 ≤ IntKind.i64.wrap (i6 + t27)) && decide (IntKind.i64.wrap (i6 + t27) < out5.length)) (grd (decide ((IntKind.i64.wrap (i6 + t27)).toNat < out5.length)) (grd ((1000000000 : Int) != 0) (grd ((1000000000 : Int) != 0) (grd (decide (0 ≤ IntKind.i64.wrap (i6 + t27)) && decide (IntKind.i64.wrap (i6 + t27) < out5.length)) (grd (decide ((IntKind.i64.wrap (i6 + t27)).toNat < out5.length)) (some (Ex.normal, (b1, out5.set ((IntKind.i64.wrap (i6 + t27)).toNat) (IntKind.u32.wrap ((IntKind.u64.wrap ((IntKind.u64.wrap ((IntKind.u64.wrap (out5.getD ((IntKind.i64.wrap (i6 + t27)).toNat) (0 : Int))) + (IntKind.u64.wrap ((IntKind.u64.wrap (x7)) * (IntKind.u64.wrap (t25.getD t27.toNat (0 : Int))))))) + carry8)).tmod 1000000000)), i6, x7, IntKind.u64.wrap ((IntKind.u64.wrap ((IntKind.u64.wrap ((IntKind.u64.wrap (out5.getD ((IntKind.i64.wrap (i6 + t27)).toNat) (0 : Int))) + (IntKind.u64.wrap ((IntKind.u64.wrap (x7)) * (IntKind.u64.wrap (t25.getD t27.toNat (0 : Int))))))) + carry8)).tdiv 1000000000), t18, t19, t20, t25, t26, IntKind.i64.wrap (t27 + (1 : Int)), ()))))))))))
    (some (Ex.exit 2, (b1, out5, i6, x7, carry8, t18, t19, t20, t25, t26, t27, ())))
def n_nat_mul_s3 (x : (List Int) × (List Int) × (List Int) × Int × Int × Unit) : Option (Ex × ((List Int) × (List Int) × (List Int) × Int × Int × Unit)) :=
  let b1 := x.1
  let out5 := x.2.1
  let t18 := x.2.2.1
  let t19 := x.2.2.2.1
  let t20 := x.2.2.2.2.1
  cond (decide (t20 < t19))
    (grd (decide (0 ≤ t20) && decide (t20 < t18.length)) (
      (loopO n_nat_mul_s7 (b1, out5, t20, t18.getD t20.toNat (0 : Int), 0, t18, t19, t20, b1, (b1.length : Int), 0, ())).bind fun y1 =>
      cond (Ex.same y1.1 (Ex.exit 2))
        (grd (decide (0 ≤ IntKind.i64.wrap (y1.2.2.2.1 + (y1.2.1.length : Int))) && decide (IntKind.i64.wrap (y1.2.2.2.1 + (y1.2.1.length : Int)) < y1.2.2.1.length)) (grd (decide ((IntKind.i64.wrap (y1.2.2.2.1 + (y1.2.1.length : Int))).toNat < y1.2.2.1.length)) (some (Ex.normal, (y1.2.1, y1.2.2.1.set ((IntKind.i64.wrap (y1.2.2.2.1 + (y1.2.1.length : Int))).toNat) (IntKind.u32.wrap (y1.2.2.2.2.2.1)), y1.2.2.2.2.2.2.1, y1.2.2.2.2.2.2.2.1, IntKind.i64.wrap (y1.2.2.2.2.2.2.2.2.1 + (1 : Int)), ())))))
        (none)))
    (some (Ex.exit 0, (b1, out5, t18, t19, t20, ())))
def n_nat_mul (a0 : List Int) (b1 : List Int) : Option (((List Int) × Unit) × Unit) :=
  grd (decide (0 ≤ IntKind.i64.wrap ((a0.length : Int) + (b1.length : Int))) && decide (IntKind.i64.wrap ((a0.length : Int) + (b1.length : Int)) ≤ IntKind.i64.wrap ((a0.length : Int) + (b1.length : Int))) && decide (IntKind.i64.wrap ((a0.length : Int) + (b1.length : Int)) ≤ maxN)) (
    (loopO n_nat_mul_s3 (b1, List.replicate (IntKind.i64.wrap ((a0.length : Int) + (b1.length : Int))).toNat (0 : Int), a0, (a0.length : Int), 0, ())).bind fun y1 =>
    cond (Ex.same y1.1 (Ex.exit 0))
      ((n_nat_trim y1.2.2.1).bind fun r2 =>
      some ((r2.1.1, ()), ()))
      (none))
def n_nat_add_s4 (x : (List Int) × (List Int) × (List Int) × Int × Int × Int × Unit) : Option (Ex × ((List Int) × (List Int) × (List Int) × Int × Int × Int × Unit)) :=
  let a0 := x.1
  let b1 := x.2.1
  let out5 := x.2.2.1
  let carry6 := x.2.2.2.1
  let t20 := x.2.2.2.2.1
  let t21 := x.2.2.2.2.2.1
  cond (decide (t21 < t20))
    ((n_nat_at a0 t21).bind fun r1 =>
    (n_nat_at b1 t21).bind fun r2 =>
    grd ((1000000000 : Int) != 0) (grd (decide (out5.length + ([(IntKind.u32.wrap ((IntKind.u32.wrap (r1.1.1 + r2.1.1)) + carry6)).tmod 1000000000] : List Int).length ≤ maxN)) (grd ((1000000000 : Int) != 0) (some (Ex.normal, (a0, b1, out5 ++ ([(IntKind.u32.wrap ((IntKind.u32.wrap (r1.1.1 + r2.1.1)) + carry6)).tmod 1000000000] : List Int), IntKind.u32.wrap ((IntKind.u32.wrap ((IntKind.u32.wrap (r1.1.1 + r2.1.1)) + carry6)).tdiv 1000000000), t20, IntKind.i64.wrap (t21 + (1 : Int)), ()))))))
    (some (Ex.exit 0, (a0, b1, out5, carry6, t20, t21, ())))
def n_nat_add (a0 : List Int) (b1 : List Int) : Option (((List Int) × Unit) × Unit) :=
  grd (decide (0 ≤ (0 : Int)) && decide ((0 : Int) ≤ IntKind.i64.wrap ((maxA (a0.length : Int) (b1.length : Int)) + (1 : Int))) && decide (IntKind.i64.wrap ((maxA (a0.length : Int) (b1.length : Int)) + (1 : Int)) ≤ maxN)) (
    (loopO n_nat_add_s4 (a0, b1, List.replicate (0 : Int).toNat (0 : Int), 0, maxA (a0.length : Int) (b1.length : Int), 0, ())).bind fun y1 =>
    cond (Ex.same y1.1 (Ex.exit 0))
      (grd (decide (y1.2.2.2.1.length + ([y1.2.2.2.2.1] : List Int).length ≤ maxN)) (
        (n_nat_trim (y1.2.2.2.1 ++ ([y1.2.2.2.2.1] : List Int))).bind fun r2 =>
        some ((r2.1.1, ()), ())))
      (none))
def n_nat_sub_s4 (x : (List Int) × (List Int) × (List Int) × Int × Int × Int × Unit) : Option (Ex × ((List Int) × (List Int) × (List Int) × Int × Int × Int × Unit)) :=
  let a0 := x.1
  let b1 := x.2.1
  let out5 := x.2.2.1
  let borrow6 := x.2.2.2.1
  let t13 := x.2.2.2.2.1
  let t14 := x.2.2.2.2.2.1
  cond (decide (t14 < t13))
    (grd (decide (0 ≤ t14) && decide (t14 < a0.length)) (
      (n_nat_at b1 t14).bind fun r1 =>
      cond (decide ((IntKind.i64.wrap ((IntKind.i64.wrap ((IntKind.i64.wrap (a0.getD t14.toNat (0 : Int))) - (IntKind.i64.wrap (r1.1.1)))) - borrow6)) < (0 : Int)))
        (grd (decide (out5.length + ([IntKind.u32.wrap (IntKind.i64.wrap ((IntKind.i64.wrap ((IntKind.i64.wrap ((IntKind.i64.wrap (a0.getD t14.toNat (0 : Int))) - (IntKind.i64.wrap (r1.1.1)))) - borrow6)) + (1000000000 : Int)))] : List Int).length ≤ maxN)) (some (Ex.normal, (a0, b1, out5 ++ ([IntKind.u32.wrap (IntKind.i64.wrap ((IntKind.i64.wrap ((IntKind.i64.wrap ((IntKind.i64.wrap (a0.getD t14.toNat (0 : Int))) - (IntKind.i64.wrap (r1.1.1)))) - borrow6)) + (1000000000 : Int)))] : List Int), 1, t13, IntKind.i64.wrap (t14 + (1 : Int)), ()))))
        (grd (decide (out5.length + ([IntKind.u32.wrap (IntKind.i64.wrap ((IntKind.i64.wrap ((IntKind.i64.wrap (a0.getD t14.toNat (0 : Int))) - (IntKind.i64.wrap (r1.1.1)))) - borrow6))] : List Int).length ≤ maxN)) (some (Ex.normal, (a0, b1, out5 ++ ([IntKind.u32.wrap (IntKind.i64.wrap ((IntKind.i64.wrap ((IntKind.i64.wrap (a0.getD t14.toNat (0 : Int))) - (IntKind.i64.wrap (r1.1.1)))) - borrow6))] : List Int), 0, t13, IntKind.i64.wrap (t14 + (1 : Int)), ()))))))
    (some (Ex.exit 0, (a0, b1, out5, borrow6, t13, t14, ())))
def n_nat_sub (a0 : List Int) (b1 : List Int) : Option (((List Int) × Unit) × Unit) :=
  grd (decide (0 ≤ (0 : Int)) && decide ((0 : Int) ≤ (a0.length : Int)) && decide ((a0.length : Int) ≤ maxN)) (
    (loopO n_nat_sub_s4 (a0, b1, List.replicate (0 : Int).toNat (0 : Int), 0, (a0.length : Int), 0, ())).bind fun y1 =>
    cond (Ex.same y1.1 (Ex.exit 0))
      ((n_nat_trim y1.2.2.2.1).bind fun r2 =>
      some ((r2.1.1, ()), ()))
      (none))
def n_rat_add (x0 : Bool × (List Int) × List Int) (y1 : Bool × (List Int) × List Int) : Option (((Bool × (List Int) × List Int) × Unit) × Unit) :=
  (n_nat_mul x0.2.1 y1.2.2).bind fun r1 =>
  (n_nat_mul y1.2.1 x0.2.2).bind fun r2 =>
  (n_nat_mul x0.2.2 y1.2.2).bind fun r3 =>
  cond (x0.1 == y1.1)
    ((n_nat_add r1.1.1 r2.1.1).bind fun r4 =>
    (n_lowest x0.1 r4.1.1 r3.1.1).bind fun r5 =>
    some (((r5.1.1.1, r5.1.1.2.1, r5.1.1.2.2), ()), ()))
    ((n_nat_cmp r1.1.1 r2.1.1).bind fun r6 =>
    cond (decide (r6.1.1 ≥ (0 : Int)))
      ((n_nat_sub r1.1.1 r2.1.1).bind fun r7 =>
      (n_lowest x0.1 r7.1.1 r3.1.1).bind fun r8 =>
      some (((r8.1.1.1, r8.1.1.2.1, r8.1.1.2.2), ()), ()))
      ((n_nat_sub r2.1.1 r1.1.1).bind fun r9 =>
      (n_lowest y1.1 r9.1.1 r3.1.1).bind fun r10 =>
      some (((r10.1.1.1, r10.1.1.2.1, r10.1.1.2.2), ()), ())))
def n_Add_2 (x0 : Bool × (List Int) × List Int) (y1 : Bool × (List Int) × List Int) : Option (((List UInt8) × Unit) × Unit) :=
  (n_rat_add (x0.1, x0.2.1, x0.2.2) (y1.1, y1.2.1, y1.2.2)).bind fun r1 =>
  (n_rat_text (r1.1.1.1, r1.1.1.2.1, r1.1.1.2.2)).bind fun r2 =>
  some ((r2.1.1, ()), ())
def n_numeral_s2 (x : (List UInt8) × Bool × (List Int) × Int × Int × Unit) : Option (Ex × ((List UInt8) × Bool × (List Int) × Int × Int × Unit)) :=
  let s0 := x.1
  let t2 := x.2.1
  let t6 := x.2.2.1
  let t7 := x.2.2.2.1
  let t8 := x.2.2.2.2.1
  cond (decide (t8 < t7))
    (grd (decide (0 ≤ t8) && decide (t8 < t6.length)) (
      cond (decide ((t6.getD t8.toNat (0 : Int)) < (48 : Int)))
        (some (Ex.ret, (s0, false, t6, t7, t8, ())))
        (cond (decide ((t6.getD t8.toNat (0 : Int)) > (57 : Int)))
          (some (Ex.ret, (s0, false, t6, t7, t8, ())))
          (some (Ex.normal, (s0, t2, t6, t7, IntKind.i64.wrap (t8 + (1 : Int)), ()))))))
    (some (Ex.exit 0, (s0, t2, t6, t7, t8, ())))
def n_numeral (s0 : List UInt8) : Option ((Bool × Unit) × Unit) :=
  (loopO n_numeral_s2 (s0, false, s0.map fun b => (b.toNat : Int), ((s0.map fun b => (b.toNat : Int)).length : Int), 0, ())).bind fun y1 =>
  cond (Ex.same y1.1 (Ex.exit 0))
    (cond (y1.2.1 == ([48] : List UInt8))
      (some ((true, ()), ()))
      (cond (!(y1.2.1 == ([] : List UInt8)))
        (grd (decide (0 ≤ (0 : Int)) && decide ((0 : Int) < y1.2.1.length)) (some ((((y1.2.1.getD (0 : Int).toNat 0).toNat : Int) != (48 : Int), ()), ())))
        (some ((false, ()), ()))))
    (cond (Ex.same y1.1 Ex.ret)
      (some ((y1.2.2.1, ()), ()))
      (none))
def n_read (a0 : List UInt8) : Option (((Bool × (List Int) × List Int) × Bool × Unit) × Unit) :=
  (strings_CutPrefix a0 ([45] : List UInt8)).bind fun r1 =>
  (strings_Cut r1.1.1 ([47] : List UInt8)).bind fun r2 =>
  (n_numeral r2.1.1).bind fun r3 =>
  cond (!r3.1.1)
    (some (((false, ([] : List Int), ([] : List Int)), false, ()), ()))
    (cond (r2.1.1 == ([48] : List UInt8))
      (cond (r1.1.2.1)
        (some (((false, ([] : List Int), ([] : List Int)), false, ()), ()))
        (cond (r2.1.2.2.1)
          (some (((false, ([] : List Int), ([] : List Int)), false, ()), ()))
          ((n_natOf r2.1.1).bind fun r4 =>
          cond (!r2.1.2.2.1)
            (some (((r1.1.2.1, r4.1.1, ([1] : List Int)), true, ()), ()))
            ((n_numeral r2.1.2.1).bind fun r5 =>
            cond (!r5.1.1)
              (some (((false, ([] : List Int), ([] : List Int)), false, ()), ()))
              (cond (r2.1.2.1 == ([48] : List UInt8))
                (some (((false, ([] : List Int), ([] : List Int)), false, ()), ()))
                (cond (r2.1.2.1 == ([49] : List UInt8))
                  (some (((false, ([] : List Int), ([] : List Int)), false, ()), ()))
                  ((n_natOf r2.1.2.1).bind fun r6 =>
                  (n_gcd r4.1.1 r6.1.1).bind fun r7 =>
                  (n_nat_one r7.1.1).bind fun r8 =>
                  some (((r1.1.2.1, r4.1.1, r6.1.1), r8.1.1, ()), ()))))))))
      ((n_natOf r2.1.1).bind fun r9 =>
      cond (!r2.1.2.2.1)
        (some (((r1.1.2.1, r9.1.1, ([1] : List Int)), true, ()), ()))
        ((n_numeral r2.1.2.1).bind fun r10 =>
        cond (!r10.1.1)
          (some (((false, ([] : List Int), ([] : List Int)), false, ()), ()))
          (cond (r2.1.2.1 == ([48] : List UInt8))
            (some (((false, ([] : List Int), ([] : List Int)), false, ()), ()))
            (cond (r2.1.2.1 == ([49] : List UInt8))
              (some (((false, ([] : List Int), ([] : List Int)), false, ()), ()))
              ((n_natOf r2.1.2.1).bind fun r11 =>
              (n_gcd r9.1.1 r11.1.1).bind fun r12 =>
              (n_nat_one r12.1.1).bind fun r13 =>
              some (((r1.1.2.1, r9.1.1, r11.1.1), r13.1.1, ()), ())))))))
def n_smallOf (a0 : List UInt8) : Option (((Int × Int) × Bool × Unit) × Unit) :=
  (strings_CutPrefix a0 ([45] : List UInt8)).bind fun r1 =>
  (strings_Cut r1.1.1 ([47] : List UInt8)).bind fun r2 =>
  cond (decide ((r2.1.1.length : Int) > (9 : Int)))
    (some ((((0 : Int), (0 : Int)), false, ()), ()))
    (cond (decide ((r2.1.2.1.length : Int) > (9 : Int)))
      (some ((((0 : Int), (0 : Int)), false, ()), ()))
      ((n_numeral r2.1.1).bind fun r3 =>
      cond (!r3.1.1)
        (some ((((0 : Int), (0 : Int)), false, ()), ()))
        (cond (r2.1.1 == ([48] : List UInt8))
          (cond (r1.1.2.1)
            (some ((((0 : Int), (0 : Int)), false, ()), ()))
            (cond (r2.1.2.2.1)
              (some ((((0 : Int), (0 : Int)), false, ()), ()))
              ((strconv_ParseInt r2.1.1 10 64).bind fun r4 =>
              cond (r2.1.2.2.1)
                ((n_numeral r2.1.2.1).bind fun r5 =>
                cond (!r5.1.1)
                  (some ((((0 : Int), (0 : Int)), false, ()), ()))
                  ((strconv_ParseInt r2.1.2.1 10 64).bind fun r6 =>
                  cond (decide (r6.1.1 < (2 : Int)))
                    (some ((((0 : Int), (0 : Int)), false, ()), ()))
                    ((n_divisor r4.1.1 r6.1.1).bind fun r7 =>
                    cond (r7.1.1 != (1 : Int))
                      (some ((((0 : Int), (0 : Int)), false, ()), ()))
                      (cond (r1.1.2.1)
                        (some (((IntKind.i64.wrap (0 - r4.1.1), r6.1.1), true, ()), ()))
                        (some (((r4.1.1, r6.1.1), true, ()), ()))))))
                (cond (r1.1.2.1)
                  (some (((IntKind.i64.wrap (0 - r4.1.1), 1), true, ()), ()))
                  (some (((r4.1.1, 1), true, ()), ()))))))
          ((strconv_ParseInt r2.1.1 10 64).bind fun r8 =>
          cond (r2.1.2.2.1)
            ((n_numeral r2.1.2.1).bind fun r9 =>
            cond (!r9.1.1)
              (some ((((0 : Int), (0 : Int)), false, ()), ()))
              ((strconv_ParseInt r2.1.2.1 10 64).bind fun r10 =>
              cond (decide (r10.1.1 < (2 : Int)))
                (some ((((0 : Int), (0 : Int)), false, ()), ()))
                ((n_divisor r8.1.1 r10.1.1).bind fun r11 =>
                cond (r11.1.1 != (1 : Int))
                  (some ((((0 : Int), (0 : Int)), false, ()), ()))
                  (cond (r1.1.2.1)
                    (some (((IntKind.i64.wrap (0 - r8.1.1), r10.1.1), true, ()), ()))
                    (some (((r8.1.1, r10.1.1), true, ()), ()))))))
            (cond (r1.1.2.1)
              (some (((IntKind.i64.wrap (0 - r8.1.1), 1), true, ()), ()))
              (some (((r8.1.1, 1), true, ()), ())))))))
def n_two_a (a0 : List UInt8) (b1 : List UInt8) (small2 : Unit) (all3 : Unit) : Option (((List UInt8) × Unit) × Unit) :=
  (n_smallOf a0).bind fun r1 =>
  (n_smallOf b1).bind fun r2 =>
  cond (r1.1.2.1)
    (cond (r2.1.2.1)
      ((n_Add_1 (r1.1.1.1, r1.1.1.2) (r2.1.1.1, r2.1.1.2)).bind fun r3 =>
      some ((r3.1.1, ()), ()))
      ((n_read a0).bind fun r4 =>
      (n_read b1).bind fun r5 =>
      cond (!r4.1.2.1)
        (some ((([] : List UInt8), ()), ()))
        (cond (!r5.1.2.1)
          (some ((([] : List UInt8), ()), ()))
          ((n_Add_2 (r4.1.1.1, r4.1.1.2.1, r4.1.1.2.2) (r5.1.1.1, r5.1.1.2.1, r5.1.1.2.2)).bind fun r6 =>
          some ((r6.1.1, ()), ())))))
    ((n_read a0).bind fun r7 =>
    (n_read b1).bind fun r8 =>
    cond (!r7.1.2.1)
      (some ((([] : List UInt8), ()), ()))
      (cond (!r8.1.2.1)
        (some ((([] : List UInt8), ()), ()))
        ((n_Add_2 (r7.1.1.1, r7.1.1.2.1, r7.1.1.2.2) (r8.1.1.1, r8.1.1.2.1, r8.1.1.2.2)).bind fun r9 =>
        some ((r9.1.1, ()), ()))))
def n_Add (a0 : List UInt8) (b1 : List UInt8) : Option (((List UInt8) × Unit) × Unit) :=
  (n_two_a a0 b1 () ()).bind fun r1 =>
  some ((r1.1.1, ()), ())
def n_IsInt (a0 : List UInt8) : Option ((Bool × Unit) × Unit) :=
  (strings_CutPrefix a0 ([45] : List UInt8)).bind fun r1 =>
  (n_numeral r1.1.1).bind fun r2 =>
  cond (r2.1.1)
    (cond (r1.1.2.1)
      (some ((!(r1.1.1 == ([48] : List UInt8)), ()), ()))
      (some ((true, ()), ())))
    (some ((false, ()), ()))
def n_rat_quoRem (x0 : Bool × (List Int) × List Int) (y1 : Bool × (List Int) × List Int) : Option (((Bool × (List Int) × List Int) × (Bool × (List Int) × List Int) × Unit) × Unit) :=
  (n_nat_quoRem x0.2.1 y1.2.1).bind fun r1 =>
  cond (x0.1)
    (cond (decide ((r1.1.2.1.length : Int) > (0 : Int)))
      ((n_nat_add r1.1.1 ([1] : List Int)).bind fun r2 =>
      (n_nat_sub y1.2.1 r1.1.2.1).bind fun r3 =>
      some (((!(x0.1 == y1.1), r2.1.1, ([1] : List Int)), (false, r3.1.1, ([1] : List Int)), ()), ()))
      (some (((!(x0.1 == y1.1), r1.1.1, ([1] : List Int)), (false, r1.1.2.1, ([1] : List Int)), ()), ())))
    (some (((!(x0.1 == y1.1), r1.1.1, ([1] : List Int)), (false, r1.1.2.1, ([1] : List Int)), ()), ()))
def n_quoRem (a0 : List UInt8) (b1 : List UInt8) : Option (((List UInt8) × (List UInt8) × Unit) × Unit) :=
  (n_IsInt a0).bind fun r1 =>
  cond (!r1.1.1)
    (some ((([] : List UInt8), ([] : List UInt8), ()), ()))
    ((n_IsInt b1).bind fun r2 =>
    cond (!r2.1.1)
      (some ((([] : List UInt8), ([] : List UInt8), ()), ()))
      (cond (b1 == ([48] : List UInt8))
        (some ((([] : List UInt8), ([] : List UInt8), ()), ()))
        ((n_read a0).bind fun r3 =>
        (n_read b1).bind fun r4 =>
        (n_rat_quoRem (r3.1.1.1, r3.1.1.2.1, r3.1.1.2.2) (r4.1.1.1, r4.1.1.2.1, r4.1.1.2.2)).bind fun r5 =>
        (n_rat_text (r5.1.1.1, r5.1.1.2.1, r5.1.1.2.2)).bind fun r6 =>
        (n_rat_text (r5.1.2.1.1, r5.1.2.1.2.1, r5.1.2.1.2.2)).bind fun r7 =>
        some ((r6.1.1, r7.1.1, ()), ()))))
def n_Rem (a0 : List UInt8) (b1 : List UInt8) : Option (((List UInt8) × Unit) × Unit) :=
  (n_quoRem a0 b1).bind fun r1 =>
  some ((r1.1.2.1, ()), ())
def n_Quo (a0 : List UInt8) (b1 : List UInt8) : Option (((List UInt8) × Unit) × Unit) :=
  (n_quoRem a0 b1).bind fun r1 =>
  some ((r1.1.1, ()), ())
def n_Valid (a0 : List UInt8) : Option ((Bool × Unit) × Unit) :=
  (n_smallOf a0).bind fun r1 =>
  cond (r1.1.2.1)
    (some ((true, ()), ()))
    ((n_read a0).bind fun r2 =>
    some ((r2.1.2.1, ()), ()))
def l_awake : Option ((Bool × Unit) × Unit) :=
  (n_Parse ([48, 48, 55, 46, 53, 48] : List UInt8)).bind fun r1 =>
  (n_Add ([49, 47, 50] : List UInt8) ([49, 47, 51] : List UInt8)).bind fun r2 =>
  cond (r2.1.1 == ([53, 47, 54] : List UInt8))
    ((n_Quo ([45, 55] : List UInt8) ([50] : List UInt8)).bind fun r3 =>
    cond (r3.1.1 == ([45, 52] : List UInt8))
      ((n_Rem ([45, 55] : List UInt8) ([50] : List UInt8)).bind fun r4 =>
      cond (r4.1.1 == ([49] : List UInt8))
        (cond (r1.1.2.1)
          (cond (r1.1.1 == ([49, 53, 47, 50] : List UInt8))
            ((n_Valid ([50, 47, 52] : List UInt8)).bind fun r5 =>
            cond (!r5.1.1)
              ((n_Valid ([45, 51, 47, 52] : List UInt8)).bind fun r6 =>
              some ((r6.1.1, ()), ()))
              (some ((false, ()), ())))
            (some ((false, ()), ())))
          (some ((false, ()), ())))
        (some ((false, ()), ())))
      (some ((false, ()), ())))
    (some ((false, ()), ()))
def r_FromInt_s3 (x : Int × (List UInt8) × Int × Unit) : Option (Ex × (Int × (List UInt8) × Int × Unit)) :=
  let n0 := x.1
  let s3 := x.2.1
  let v4 := x.2.2.1
  cond (v4 != (0 : Int))
    (grd ((10 : Int) != 0) (
      cond (decide ((v4.tmod 10) < (0 : Int)))
        (grd (decide ((([IntKind.u8.wrap (IntKind.i64.wrap ((48 : Int) + (IntKind.i64.wrap (0 - (v4.tmod 10)))))] : List Int).map fun n => UInt8.ofNat n.toNat).length + s3.length ≤ maxS)) (grd ((10 : Int) != 0) (some (Ex.normal, (n0, (([IntKind.u8.wrap (IntKind.i64.wrap ((48 : Int) + (IntKind.i64.wrap (0 - (v4.tmod 10)))))] : List Int).map fun n => UInt8.ofNat n.toNat) ++ s3, IntKind.i64.wrap (v4.tdiv 10), ())))))
        (grd (decide ((([IntKind.u8.wrap (IntKind.i64.wrap ((48 : Int) + (v4.tmod 10)))] : List Int).map fun n => UInt8.ofNat n.toNat).length + s3.length ≤ maxS)) (grd ((10 : Int) != 0) (some (Ex.normal, (n0, (([IntKind.u8.wrap (IntKind.i64.wrap ((48 : Int) + (v4.tmod 10)))] : List Int).map fun n => UInt8.ofNat n.toNat) ++ s3, IntKind.i64.wrap (v4.tdiv 10), ())))))))
    (cond (s3 == ([] : List UInt8))
      (grd ((10 : Int) != 0) (
        cond (decide ((v4.tmod 10) < (0 : Int)))
          (grd (decide ((([IntKind.u8.wrap (IntKind.i64.wrap ((48 : Int) + (IntKind.i64.wrap (0 - (v4.tmod 10)))))] : List Int).map fun n => UInt8.ofNat n.toNat).length + s3.length ≤ maxS)) (grd ((10 : Int) != 0) (some (Ex.normal, (n0, (([IntKind.u8.wrap (IntKind.i64.wrap ((48 : Int) + (IntKind.i64.wrap (0 - (v4.tmod 10)))))] : List Int).map fun n => UInt8.ofNat n.toNat) ++ s3, IntKind.i64.wrap (v4.tdiv 10), ())))))
          (grd (decide ((([IntKind.u8.wrap (IntKind.i64.wrap ((48 : Int) + (v4.tmod 10)))] : List Int).map fun n => UInt8.ofNat n.toNat).length + s3.length ≤ maxS)) (grd ((10 : Int) != 0) (some (Ex.normal, (n0, (([IntKind.u8.wrap (IntKind.i64.wrap ((48 : Int) + (v4.tmod 10)))] : List Int).map fun n => UInt8.ofNat n.toNat) ++ s3, IntKind.i64.wrap (v4.tdiv 10), ())))))))
      (some (Ex.exit 0, (n0, s3, v4, ()))))
def r_FromInt (n0 : Int) : Option (((List UInt8) × Unit) × Unit) :=
  (loopO r_FromInt_s3 (n0, ([] : List UInt8), n0, ())).bind fun y1 =>
  cond (Ex.same y1.1 (Ex.exit 0))
    (cond (decide (y1.2.1 < (0 : Int)))
      (grd (decide (([45] : List UInt8).length + y1.2.2.1.length ≤ maxS)) (some ((([45] : List UInt8) ++ y1.2.2.1, ()), ())))
      (some ((y1.2.2.1, ()), ())))
    (none)
def g_Mod (v0 : Int) (n1 : Int) : Option ((Int × Unit) × Unit) :=
  grd ((IntKind.u64.wrap (n1)) != 0) (some ((IntKind.i64.wrap ((IntKind.u64.wrap (v0)).tmod (IntKind.u64.wrap (n1))), ()), ()))
def r_digits_s2 (x : (List UInt8) × Bool × Int × Unit) : Option (Ex × ((List UInt8) × Bool × Int × Unit)) :=
  let s0 := x.1
  let t2 := x.2.1
  let i3 := x.2.2.1
  cond (decide (i3 < (s0.length : Int)))
    (grd (decide (0 ≤ i3) && decide (i3 < s0.length)) (
      cond (decide (((s0.getD i3.toNat 0).toNat : Int) < (48 : Int)))
        (some (Ex.ret, (s0, false, i3, ())))
        (grd (decide (0 ≤ i3) && decide (i3 < s0.length)) (
          cond (decide (((s0.getD i3.toNat 0).toNat : Int) > (57 : Int)))
            (some (Ex.ret, (s0, false, i3, ())))
            (some (Ex.normal, (s0, t2, IntKind.i64.wrap (i3 + (1 : Int)), ())))))))
    (some (Ex.exit 0, (s0, t2, i3, ())))
def r_digits (s0 : List UInt8) : Option ((Bool × Unit) × Unit) :=
  (loopO r_digits_s2 (s0, false, 0, ())).bind fun y1 =>
  cond (Ex.same y1.1 (Ex.exit 0))
    (some ((!(y1.2.1 == ([] : List UInt8)), ()), ()))
    (cond (Ex.same y1.1 Ex.ret)
      (some ((y1.2.2.1, ()), ()))
      (none))
def r_trim_s1 (x : (List UInt8) × Unit) : Option (Ex × ((List UInt8) × Unit)) :=
  let s0 := x.1
  cond (decide ((s0.length : Int) > (1 : Int)))
    (grd (decide (0 ≤ (0 : Int)) && decide ((0 : Int) < s0.length)) (
      cond (((s0.getD (0 : Int).toNat 0).toNat : Int) == (48 : Int))
        (grd (decide (0 ≤ (1 : Int)) && decide ((1 : Int) ≤ s0.length)) (some (Ex.normal, (s0.drop (1 : Int).toNat, ()))))
        (some (Ex.exit 0, (s0, ())))))
    (some (Ex.exit 0, (s0, ())))
def r_trim (s0 : List UInt8) : Option (((List UInt8) × Unit) × Unit) :=
  (loopO r_trim_s1 (s0, ())).bind fun y1 =>
  cond (Ex.same y1.1 (Ex.exit 0))
    (some ((y1.2.1, ()), ()))
    (none)
def r_cmpMag (a0 : List UInt8) (b1 : List UInt8) : Option ((Int × Unit) × Unit) :=
  cond (decide ((a0.length : Int) < (b1.length : Int)))
    (some ((-1, ()), ()))
    (cond ((a0.length : Int) == (b1.length : Int))
      (cond (strLt a0 b1)
        (some ((-1, ()), ()))
        (cond (a0 == b1)
          (some ((0, ()), ()))
          (some ((1, ()), ()))))
      (cond (a0 == b1)
        (some ((0, ()), ()))
        (some ((1, ()), ()))))
def r_subMag_s4 (x : (List UInt8) × (List UInt8) × (List Int) × Int × Int × Unit) : Option (Ex × ((List UInt8) × (List UInt8) × (List Int) × Int × Int × Unit)) :=
  let a0 := x.1
  let b1 := x.2.1
  let out5 := x.2.2.1
  let borrow6 := x.2.2.2.1
  let i7 := x.2.2.2.2.1
  cond (decide (i7 < (a0.length : Int)))
    (grd (decide (0 ≤ IntKind.i64.wrap ((IntKind.i64.wrap ((a0.length : Int) - (1 : Int))) - i7)) && decide (IntKind.i64.wrap ((IntKind.i64.wrap ((a0.length : Int) - (1 : Int))) - i7) < a0.length)) (
      cond (decide (i7 < (b1.length : Int)))
        (grd (decide (0 ≤ IntKind.i64.wrap ((IntKind.i64.wrap ((b1.length : Int) - (1 : Int))) - i7)) && decide (IntKind.i64.wrap ((IntKind.i64.wrap ((b1.length : Int) - (1 : Int))) - i7) < b1.length)) (
          cond (decide ((IntKind.i64.wrap ((IntKind.i64.wrap ((IntKind.i64.wrap (IntKind.u8.wrap (((a0.getD (IntKind.i64.wrap ((IntKind.i64.wrap ((a0.length : Int) - (1 : Int))) - i7)).toNat 0).toNat : Int) - (48 : Int)))) - borrow6)) - (IntKind.i64.wrap (IntKind.u8.wrap (((b1.getD (IntKind.i64.wrap ((IntKind.i64.wrap ((b1.length : Int) - (1 : Int))) - i7)).toNat 0).toNat : Int) - (48 : Int)))))) < (0 : Int)))
            (grd (decide (0 ≤ IntKind.i64.wrap ((IntKind.i64.wrap ((a0.length : Int) - (1 : Int))) - i7)) && decide (IntKind.i64.wrap ((IntKind.i64.wrap ((a0.length : Int) - (1 : Int))) - i7) < out5.length)) (grd (decide ((IntKind.i64.wrap ((IntKind.i64.wrap ((a0.length : Int) - (1 : Int))) - i7)).toNat < out5.length)) (some (Ex.normal, (a0, b1, out5.set ((IntKind.i64.wrap ((IntKind.i64.wrap ((a0.length : Int) - (1 : Int))) - i7)).toNat) (IntKind.u8.wrap (IntKind.i64.wrap ((48 : Int) + (IntKind.i64.wrap ((IntKind.i64.wrap ((IntKind.i64.wrap ((IntKind.i64.wrap (IntKind.u8.wrap (((a0.getD (IntKind.i64.wrap ((IntKind.i64.wrap ((a0.length : Int) - (1 : Int))) - i7)).toNat 0).toNat : Int) - (48 : Int)))) - borrow6)) - (IntKind.i64.wrap (IntKind.u8.wrap (((b1.getD (IntKind.i64.wrap ((IntKind.i64.wrap ((b1.length : Int) - (1 : Int))) - i7)).toNat 0).toNat : Int) - (48 : Int)))))) + (10 : Int)))))), 1, IntKind.i64.wrap (i7 + (1 : Int)), ())))))
            (grd (decide (0 ≤ IntKind.i64.wrap ((IntKind.i64.wrap ((a0.length : Int) - (1 : Int))) - i7)) && decide (IntKind.i64.wrap ((IntKind.i64.wrap ((a0.length : Int) - (1 : Int))) - i7) < out5.length)) (grd (decide ((IntKind.i64.wrap ((IntKind.i64.wrap ((a0.length : Int) - (1 : Int))) - i7)).toNat < out5.length)) (some (Ex.normal, (a0, b1, out5.set ((IntKind.i64.wrap ((IntKind.i64.wrap ((a0.length : Int) - (1 : Int))) - i7)).toNat) (IntKind.u8.wrap (IntKind.i64.wrap ((48 : Int) + (IntKind.i64.wrap ((IntKind.i64.wrap ((IntKind.i64.wrap (IntKind.u8.wrap (((a0.getD (IntKind.i64.wrap ((IntKind.i64.wrap ((a0.length : Int) - (1 : Int))) - i7)).toNat 0).toNat : Int) - (48 : Int)))) - borrow6)) - (IntKind.i64.wrap (IntKind.u8.wrap (((b1.getD (IntKind.i64.wrap ((IntKind.i64.wrap ((b1.length : Int) - (1 : Int))) - i7)).toNat 0).toNat : Int) - (48 : Int))))))))), 0, IntKind.i64.wrap (i7 + (1 : Int)), ())))))))
        (cond (decide ((IntKind.i64.wrap ((IntKind.i64.wrap (IntKind.u8.wrap (((a0.getD (IntKind.i64.wrap ((IntKind.i64.wrap ((a0.length : Int) - (1 : Int))) - i7)).toNat 0).toNat : Int) - (48 : Int)))) - borrow6)) < (0 : Int)))
          (grd (decide (0 ≤ IntKind.i64.wrap ((IntKind.i64.wrap ((a0.length : Int) - (1 : Int))) - i7)) && decide (IntKind.i64.wrap ((IntKind.i64.wrap ((a0.length : Int) - (1 : Int))) - i7) < out5.length)) (grd (decide ((IntKind.i64.wrap ((IntKind.i64.wrap ((a0.length : Int) - (1 : Int))) - i7)).toNat < out5.length)) (some (Ex.normal, (a0, b1, out5.set ((IntKind.i64.wrap ((IntKind.i64.wrap ((a0.length : Int) - (1 : Int))) - i7)).toNat) (IntKind.u8.wrap (IntKind.i64.wrap ((48 : Int) + (IntKind.i64.wrap ((IntKind.i64.wrap ((IntKind.i64.wrap (IntKind.u8.wrap (((a0.getD (IntKind.i64.wrap ((IntKind.i64.wrap ((a0.length : Int) - (1 : Int))) - i7)).toNat 0).toNat : Int) - (48 : Int)))) - borrow6)) + (10 : Int)))))), 1, IntKind.i64.wrap (i7 + (1 : Int)), ())))))
          (grd (decide (0 ≤ IntKind.i64.wrap ((IntKind.i64.wrap ((a0.length : Int) - (1 : Int))) - i7)) && decide (IntKind.i64.wrap ((IntKind.i64.wrap ((a0.length : Int) - (1 : Int))) - i7) < out5.length)) (grd (decide ((IntKind.i64.wrap ((IntKind.i64.wrap ((a0.length : Int) - (1 : Int))) - i7)).toNat < out5.length)) (some (Ex.normal, (a0, b1, out5.set ((IntKind.i64.wrap ((IntKind.i64.wrap ((a0.length : Int) - (1 : Int))) - i7)).toNat) (IntKind.u8.wrap (IntKind.i64.wrap ((48 : Int) + (IntKind.i64.wrap ((IntKind.i64.wrap (IntKind.u8.wrap (((a0.getD (IntKind.i64.wrap ((IntKind.i64.wrap ((a0.length : Int) - (1 : Int))) - i7)).toNat 0).toNat : Int) - (48 : Int)))) - borrow6))))), 0, IntKind.i64.wrap (i7 + (1 : Int)), ()))))))))
    (some (Ex.exit 0, (a0, b1, out5, borrow6, i7, ())))
def r_subMag (a0 : List UInt8) (b1 : List UInt8) : Option (((List UInt8) × Unit) × Unit) :=
  grd (decide (0 ≤ (a0.length : Int)) && decide ((a0.length : Int) ≤ (a0.length : Int)) && decide ((a0.length : Int) ≤ maxN)) (
    (loopO r_subMag_s4 (a0, b1, List.replicate (a0.length : Int).toNat (0 : Int), 0, 0, ())).bind fun y1 =>
    cond (Ex.same y1.1 (Ex.exit 0))
      ((r_trim (y1.2.2.2.1.map fun n => UInt8.ofNat n.toNat)).bind fun r2 =>
      some ((r2.1.1, ()), ()))
      (none))
def r_divMag_s8 (x : (List UInt8) × (List UInt8) × (List Int) × (List UInt8) × Int × Int × Unit) : Option (Ex × ((List UInt8) × (List UInt8) × (List Int) × (List UInt8) × Int × Int × Unit)) :=
  let a0 := x.1
  let b1 := x.2.1
  let q6 := x.2.2.1
  let r7 := x.2.2.2.1
  let i8 := x.2.2.2.2.1
  let d9 := x.2.2.2.2.2.1
  (r_cmpMag r7 b1).bind fun r1 =>
  cond (decide (r1.1.1 ≥ (0 : Int)))
    ((r_subMag r7 b1).bind fun r2 =>
    some (Ex.normal, (a0, b1, q6, r2.1.1, i8, IntKind.u8.wrap (d9 + (1 : Int)), ())))
    (some (Ex.exit 2, (a0, b1, q6, r7, i8, d9, ())))
def r_divMag_s4 (x : (List UInt8) × (List UInt8) × (List Int) × (List UInt8) × Int × Unit) : Option (Ex × ((List UInt8) × (List UInt8) × (List Int) × (List UInt8) × Int × Unit)) :=
  let a0 := x.1
  let b1 := x.2.1
  let q6 := x.2.2.1
  let r7 := x.2.2.2.1
  let i8 := x.2.2.2.2.1
  cond (decide (i8 < (a0.length : Int)))
    (grd (decide (0 ≤ i8) && decide (i8 ≤ IntKind.i64.wrap (i8 + (1 : Int))) && decide (IntKind.i64.wrap (i8 + (1 : Int)) ≤ a0.length)) (
      grd (decide (r7.length + ((a0.take (IntKind.i64.wrap (i8 + (1 : Int))).toNat).drop i8.toNat).length ≤ maxS)) (
        (r_trim (r7 ++ ((a0.take (IntKind.i64.wrap (i8 + (1 : Int))).toNat).drop i8.toNat))).bind fun r1 =>
        (loopO r_divMag_s8 (a0, b1, q6, r1.1.1, i8, 48, ())).bind fun y2 =>
        cond (Ex.same y2.1 (Ex.exit 2))
          (grd (decide (0 ≤ y2.2.2.2.2.2.1) && decide (y2.2.2.2.2.2.1 < y2.2.2.2.1.length)) (grd (decide (y2.2.2.2.2.2.1.toNat < y2.2.2.2.1.length)) (some (Ex.normal, (y2.2.1, y2.2.2.1, y2.2.2.2.1.set y2.2.2.2.2.2.1.toNat y2.2.2.2.2.2.2.1, y2.2.2.2.2.1, IntKind.i64.wrap (y2.2.2.2.2.2.1 + (1 : Int)), ())))))
          (none))))
    (some (Ex.exit 0, (a0, b1, q6, r7, i8, ())))
def r_divMag (a0 : List UInt8) (b1 : List UInt8) : Option (((List UInt8) × (List UInt8) × Unit) × Unit) :=
  grd (decide (0 ≤ (a0.length : Int)) && decide ((a0.length : Int) ≤ (a0.length : Int)) && decide ((a0.length : Int) ≤ maxN)) (
    (loopO r_divMag_s4 (a0, b1, List.replicate (a0.length : Int).toNat (0 : Int), ([48] : List UInt8), 0, ())).bind fun y1 =>
    cond (Ex.same y1.1 (Ex.exit 0))
      ((r_trim (y1.2.2.2.1.map fun n => UInt8.ofNat n.toNat)).bind fun r2 =>
      some ((r2.1.1, y1.2.2.2.2.1, ()), ()))
      (none))
def r_gcdMag_s1 (x : (List UInt8) × (List UInt8) × Unit) : Option (Ex × ((List UInt8) × (List UInt8) × Unit)) :=
  let a0 := x.1
  let b1 := x.2.1
  cond (!(b1 == ([48] : List UInt8)))
    ((r_divMag a0 b1).bind fun r1 =>
    some (Ex.normal, (b1, r1.1.2.1, ())))
    (some (Ex.exit 0, (a0, b1, ())))
def r_gcdMag (a0 : List UInt8) (b1 : List UInt8) : Option (((List UInt8) × Unit) × Unit) :=
  (loopO r_gcdMag_s1 (a0, b1, ())).bind fun y1 =>
  cond (Ex.same y1.1 (Ex.exit 0))
    (some ((y1.2.1, ()), ()))
    (none)
def r_reduce (neg0 : Bool) (num1 : List UInt8) (den2 : List UInt8) : Option (((Bool × (List UInt8) × List UInt8) × Unit) × Unit) :=
  (r_gcdMag num1 den2).bind fun r1 =>
  (r_divMag num1 r1.1.1).bind fun r2 =>
  (r_divMag den2 r1.1.1).bind fun r3 =>
  cond (neg0)
    (some (((!(r2.1.1 == ([48] : List UInt8)), r2.1.1, r3.1.1), ()), ()))
    (some (((false, r2.1.1, r3.1.1), ()), ()))
def r_ratio_text (x0 : Bool × (List UInt8) × List UInt8) : Option (((List UInt8) × Unit) × Unit) :=
  cond (x0.1)
    (grd (decide (([45] : List UInt8).length + x0.2.1.length ≤ maxS)) (
      cond (!(x0.2.2 == ([49] : List UInt8)))
        (grd (decide (([47] : List UInt8).length + x0.2.2.length ≤ maxS)) (grd (decide ((([45] : List UInt8) ++ x0.2.1).length + (([47] : List UInt8) ++ x0.2.2).length ≤ maxS)) (some (((([45] : List UInt8) ++ x0.2.1) ++ (([47] : List UInt8) ++ x0.2.2), ()), ()))))
        (some ((([45] : List UInt8) ++ x0.2.1, ()), ()))))
    (cond (!(x0.2.2 == ([49] : List UInt8)))
      (grd (decide (([47] : List UInt8).length + x0.2.2.length ≤ maxS)) (grd (decide (x0.2.1.length + (([47] : List UInt8) ++ x0.2.2).length ≤ maxS)) (some ((x0.2.1 ++ (([47] : List UInt8) ++ x0.2.2), ()), ()))))
      (some ((x0.2.1, ()), ())))
def r_ParseDecimal_s6 (x : (List UInt8) × (List UInt8) × Bool × Bool × (List UInt8) × (List UInt8) × Int × Unit) : Option (Ex × ((List UInt8) × (List UInt8) × Bool × Bool × (List UInt8) × (List UInt8) × Int × Unit)) :=
  let s0 := x.1
  let t2 := x.2.1
  let t3 := x.2.2.1
  let neg4 := x.2.2.2.1
  let whole5 := x.2.2.2.2.1
  let part6 := x.2.2.2.2.2.1
  let i7 := x.2.2.2.2.2.2.1
  cond (decide (i7 < (s0.length : Int)))
    (grd (decide (0 ≤ i7) && decide (i7 < s0.length)) (
      cond (((s0.getD i7.toNat 0).toNat : Int) == (46 : Int))
        (grd (decide (0 ≤ i7) && decide (i7 ≤ s0.length)) (
          grd (decide (0 ≤ IntKind.i64.wrap (i7 + (1 : Int))) && decide (IntKind.i64.wrap (i7 + (1 : Int)) ≤ s0.length)) (
            (r_digits (s0.drop (IntKind.i64.wrap (i7 + (1 : Int))).toNat)).bind fun r1 =>
            cond (!r1.1.1)
              (some (Ex.ret, (s0, ([] : List UInt8), false, neg4, s0.take i7.toNat, s0.drop (IntKind.i64.wrap (i7 + (1 : Int))).toNat, i7, ())))
              (some (Ex.exit 0, (s0, t2, t3, neg4, s0.take i7.toNat, s0.drop (IntKind.i64.wrap (i7 + (1 : Int))).toNat, i7, ()))))))
        (some (Ex.normal, (s0, t2, t3, neg4, whole5, part6, IntKind.i64.wrap (i7 + (1 : Int)), ())))))
    (some (Ex.exit 0, (s0, t2, t3, neg4, whole5, part6, i7, ())))
def r_ParseDecimal_s16 (x : Bool × (List UInt8) × (List UInt8) × (List UInt8) × Int × Unit) : Option (Ex × (Bool × (List UInt8) × (List UInt8) × (List UInt8) × Int × Unit)) :=
  let neg4 := x.1
  let whole5 := x.2.1
  let part6 := x.2.2.1
  let den8 := x.2.2.2.1
  let i9 := x.2.2.2.2.1
  cond (decide (i9 < (part6.length : Int)))
    (grd (decide (den8.length + ([48] : List UInt8).length ≤ maxS)) (some (Ex.normal, (neg4, whole5, part6, den8 ++ ([48] : List UInt8), IntKind.i64.wrap (i9 + (1 : Int)), ()))))
    (some (Ex.exit 2, (neg4, whole5, part6, den8, i9, ())))
def r_ParseDecimal (s0 : List UInt8) : Option (((List UInt8) × Bool × Unit) × Unit) :=
  cond (!(s0 == ([] : List UInt8)))
    (grd (decide (0 ≤ (0 : Int)) && decide ((0 : Int) < s0.length)) (
      cond (((s0.getD (0 : Int).toNat 0).toNat : Int) == (45 : Int))
        (grd (decide (0 ≤ (1 : Int)) && decide ((1 : Int) ≤ s0.length)) (
          (loopO r_ParseDecimal_s6 (s0.drop (1 : Int).toNat, ([] : List UInt8), false, ((s0.getD (0 : Int).toNat 0).toNat : Int) == (45 : Int), s0.drop (1 : Int).toNat, ([] : List UInt8), 0, ())).bind fun y1 =>
          cond (Ex.same y1.1 (Ex.exit 0))
            ((r_digits y1.2.2.2.2.2.1).bind fun r2 =>
            cond (!r2.1.1)
              (some ((([] : List UInt8), false, ()), ()))
              ((loopO r_ParseDecimal_s16 (y1.2.2.2.2.1, y1.2.2.2.2.2.1, y1.2.2.2.2.2.2.1, ([49] : List UInt8), 0, ())).bind fun y3 =>
              cond (Ex.same y3.1 (Ex.exit 2))
                (grd (decide (y3.2.2.1.length + y3.2.2.2.1.length ≤ maxS)) (
                  (r_trim (y3.2.2.1 ++ y3.2.2.2.1)).bind fun r4 =>
                  (r_reduce y3.2.1 r4.1.1 y3.2.2.2.2.1).bind fun r5 =>
                  (r_ratio_text (r5.1.1.1, r5.1.1.2.1, r5.1.1.2.2)).bind fun r6 =>
                  some ((r6.1.1, true, ()), ())))
                (none)))
            (cond (Ex.same y1.1 Ex.ret)
              (some ((y1.2.2.1, y1.2.2.2.1, ()), ()))
              (none))))
        ((loopO r_ParseDecimal_s6 (s0, ([] : List UInt8), false, ((s0.getD (0 : Int).toNat 0).toNat : Int) == (45 : Int), s0, ([] : List UInt8), 0, ())).bind fun y7 =>
        cond (Ex.same y7.1 (Ex.exit 0))
          ((r_digits y7.2.2.2.2.2.1).bind fun r8 =>
          cond (!r8.1.1)
            (some ((([] : List UInt8), false, ()), ()))
            ((loopO r_ParseDecimal_s16 (y7.2.2.2.2.1, y7.2.2.2.2.2.1, y7.2.2.2.2.2.2.1, ([49] : List UInt8), 0, ())).bind fun y9 =>
            cond (Ex.same y9.1 (Ex.exit 2))
              (grd (decide (y9.2.2.1.length + y9.2.2.2.1.length ≤ maxS)) (
                (r_trim (y9.2.2.1 ++ y9.2.2.2.1)).bind fun r10 =>
                (r_reduce y9.2.1 r10.1.1 y9.2.2.2.2.1).bind fun r11 =>
                (r_ratio_text (r11.1.1.1, r11.1.1.2.1, r11.1.1.2.2)).bind fun r12 =>
                some ((r12.1.1, true, ()), ())))
              (none)))
          (cond (Ex.same y7.1 Ex.ret)
            (some ((y7.2.2.1, y7.2.2.2.1, ()), ()))
            (none)))))
    ((loopO r_ParseDecimal_s6 (s0, ([] : List UInt8), false, false, s0, ([] : List UInt8), 0, ())).bind fun y13 =>
    cond (Ex.same y13.1 (Ex.exit 0))
      ((r_digits y13.2.2.2.2.2.1).bind fun r14 =>
      cond (!r14.1.1)
        (some ((([] : List UInt8), false, ()), ()))
        ((loopO r_ParseDecimal_s16 (y13.2.2.2.2.1, y13.2.2.2.2.2.1, y13.2.2.2.2.2.2.1, ([49] : List UInt8), 0, ())).bind fun y15 =>
        cond (Ex.same y15.1 (Ex.exit 2))
          (grd (decide (y15.2.2.1.length + y15.2.2.2.1.length ≤ maxS)) (
            (r_trim (y15.2.2.1 ++ y15.2.2.2.1)).bind fun r16 =>
            (r_reduce y15.2.1 r16.1.1 y15.2.2.2.2.1).bind fun r17 =>
            (r_ratio_text (r17.1.1.1, r17.1.1.2.1, r17.1.1.2.2)).bind fun r18 =>
            some ((r18.1.1, true, ()), ())))
          (none)))
      (cond (Ex.same y13.1 Ex.ret)
        (some ((y13.2.2.1, y13.2.2.2.1, ()), ()))
        (none)))
def l_NumberParse_s7 (x : (List UInt8) × (List Int) × (List Int) × (List UInt8) × Int × Unit) : Option (Ex × ((List UInt8) × (List Int) × (List Int) × (List UInt8) × Int × Unit)) :=
  let s0 := x.1
  let whole2 := x.2.1
  let part3 := x.2.2.1
  let t9 := x.2.2.2.1
  let i10 := x.2.2.2.2.1
  cond (decide (i10 < (whole2.length : Int)))
    (grd (decide (0 ≤ i10) && decide (i10 < whole2.length)) (
      (g_Mod (whole2.getD i10.toNat (0 : Int)) 10).bind fun r1 =>
      (r_FromInt r1.1.1).bind fun r2 =>
      grd (decide (t9.length + r2.1.1.length ≤ maxS)) (some (Ex.normal, (s0, whole2, part3, t9 ++ r2.1.1, IntKind.i64.wrap (i10 + (1 : Int)), ())))))
    (some (Ex.exit 0, (s0, whole2, part3, t9, i10, ())))
def l_NumberParse_s13 (x : (List UInt8) × (List Int) × (List UInt8) × Int × Unit) : Option (Ex × ((List UInt8) × (List Int) × (List UInt8) × Int × Unit)) :=
  let s0 := x.1
  let part3 := x.2.1
  let t9 := x.2.2.1
  let i11 := x.2.2.2.1
  cond (decide (i11 < (part3.length : Int)))
    (grd (decide (0 ≤ i11) && decide (i11 < part3.length)) (
      (g_Mod (part3.getD i11.toNat (0 : Int)) 10).bind fun r1 =>
      (r_FromInt r1.1.1).bind fun r2 =>
      grd (decide (t9.length + r2.1.1.length ≤ maxS)) (some (Ex.normal, (s0, part3, t9 ++ r2.1.1, IntKind.i64.wrap (i11 + (1 : Int)), ())))))
    (some (Ex.exit 2, (s0, part3, t9, i11, ())))
def l_NumberParse (s0 : List UInt8) (neg1 : Bool) (whole2 : List Int) (part3 : List Int) : Option ((Bool × Unit) × Unit) :=
  (l_short ([s0] : List (List UInt8))).bind fun r1 =>
  cond (!r1.1.1)
    (l_awake.bind fun r2 =>
    some ((r2.1.1, ()), ()))
    (cond (decide ((whole2.length : Int) > (20 : Int)))
      (l_awake.bind fun r3 =>
      some ((r3.1.1, ()), ()))
      (cond (decide ((part3.length : Int) > (20 : Int)))
        (l_awake.bind fun r4 =>
        some ((r4.1.1, ()), ()))
        (cond (neg1)
          ((loopO l_NumberParse_s7 (s0, whole2, part3, ([45] : List UInt8), 0, ())).bind fun y5 =>
          cond (Ex.same y5.1 (Ex.exit 0))
            (cond (decide ((y5.2.2.2.1.length : Int) > (0 : Int)))
              (grd (decide (y5.2.2.2.2.1.length + ([46] : List UInt8).length ≤ maxS)) (
                (loopO l_NumberParse_s13 (y5.2.1, y5.2.2.2.1, y5.2.2.2.2.1 ++ ([46] : List UInt8), 0, ())).bind fun y6 =>
                cond (Ex.same y6.1 (Ex.exit 2))
                  ((n_Parse y6.2.1).bind fun r7 =>
                  (r_ParseDecimal y6.2.1).bind fun r8 =>
                  (n_Parse y6.2.2.2.1).bind fun r9 =>
                  (r_ParseDecimal y6.2.2.2.1).bind fun r10 =>
                  cond (r7.1.1 == r8.1.1)
                    (cond (r7.1.2.1 == r8.1.2.1)
                      (cond (r9.1.1 == r10.1.1)
                        (cond (r9.1.2.1 == r10.1.2.1)
                          (l_awake.bind fun r11 =>
                          some ((r11.1.1, ()), ()))
                          (some ((false, ()), ())))
                        (some ((false, ()), ())))
                      (some ((false, ()), ())))
                    (some ((false, ()), ())))
                  (none)))
              ((loopO l_NumberParse_s13 (y5.2.1, y5.2.2.2.1, y5.2.2.2.2.1, 0, ())).bind fun y12 =>
              cond (Ex.same y12.1 (Ex.exit 2))
                ((n_Parse y12.2.1).bind fun r13 =>
                (r_ParseDecimal y12.2.1).bind fun r14 =>
                (n_Parse y12.2.2.2.1).bind fun r15 =>
                (r_ParseDecimal y12.2.2.2.1).bind fun r16 =>
                cond (r13.1.1 == r14.1.1)
                  (cond (r13.1.2.1 == r14.1.2.1)
                    (cond (r15.1.1 == r16.1.1)
                      (cond (r15.1.2.1 == r16.1.2.1)
                        (l_awake.bind fun r17 =>
                        some ((r17.1.1, ()), ()))
                        (some ((false, ()), ())))
                      (some ((false, ()), ())))
                    (some ((false, ()), ())))
                  (some ((false, ()), ())))
                (none)))
            (none))
          ((loopO l_NumberParse_s7 (s0, whole2, part3, ([] : List UInt8), 0, ())).bind fun y18 =>
          cond (Ex.same y18.1 (Ex.exit 0))
            (cond (decide ((y18.2.2.2.1.length : Int) > (0 : Int)))
              (grd (decide (y18.2.2.2.2.1.length + ([46] : List UInt8).length ≤ maxS)) (
                (loopO l_NumberParse_s13 (y18.2.1, y18.2.2.2.1, y18.2.2.2.2.1 ++ ([46] : List UInt8), 0, ())).bind fun y19 =>
                cond (Ex.same y19.1 (Ex.exit 2))
                  ((n_Parse y19.2.1).bind fun r20 =>
                  (r_ParseDecimal y19.2.1).bind fun r21 =>
                  (n_Parse y19.2.2.2.1).bind fun r22 =>
                  (r_ParseDecimal y19.2.2.2.1).bind fun r23 =>
                  cond (r20.1.1 == r21.1.1)
                    (cond (r20.1.2.1 == r21.1.2.1)
                      (cond (r22.1.1 == r23.1.1)
                        (cond (r22.1.2.1 == r23.1.2.1)
                          (l_awake.bind fun r24 =>
                          some ((r24.1.1, ()), ()))
                          (some ((false, ()), ())))
                        (some ((false, ()), ())))
                      (some ((false, ()), ())))
                    (some ((false, ()), ())))
                  (none)))
              ((loopO l_NumberParse_s13 (y18.2.1, y18.2.2.2.1, y18.2.2.2.2.1, 0, ())).bind fun y25 =>
              cond (Ex.same y25.1 (Ex.exit 2))
                ((n_Parse y25.2.1).bind fun r26 =>
                (r_ParseDecimal y25.2.1).bind fun r27 =>
                (n_Parse y25.2.2.2.1).bind fun r28 =>
                (r_ParseDecimal y25.2.2.2.1).bind fun r29 =>
                cond (r26.1.1 == r27.1.1)
                  (cond (r26.1.2.1 == r27.1.2.1)
                    (cond (r28.1.1 == r29.1.1)
                      (cond (r28.1.2.1 == r29.1.2.1)
                        (l_awake.bind fun r30 =>
                        some ((r30.1.1, ()), ()))
                        (some ((false, ()), ())))
                      (some ((false, ()), ())))
                    (some ((false, ()), ())))
                  (some ((false, ()), ())))
                (none)))
            (none)))))
def g_New (l0 : List Int) : Option ((((List Int) × Int) × Unit) × Unit) :=
  grd (decide (0 ≤ minA (l0.length : Int) (400 : Int)) && decide (minA (l0.length : Int) (400 : Int) ≤ l0.length)) (some (((l0.take (minA (l0.length : Int) (400 : Int)).toNat, (0 : Int)), ()), ()))
def r_parse_s6 (x : (List UInt8) × (Bool × (List UInt8) × List UInt8) × (Bool × (List UInt8) × List UInt8) × (List UInt8) × Int × Unit) : Option (Ex × ((List UInt8) × (Bool × (List UInt8) × List UInt8) × (Bool × (List UInt8) × List UInt8) × (List UInt8) × Int × Unit)) :=
  let a0 := x.1
  let t2 := x.2.1
  let x4 := x.2.2.1
  let s5 := x.2.2.2.1
  let i6 := x.2.2.2.2.1
  cond (decide (i6 < (s5.length : Int)))
    (grd (decide (0 ≤ i6) && decide (i6 < s5.length)) (
      cond (((s5.getD i6.toNat 0).toNat : Int) == (47 : Int))
        (grd (decide (0 ≤ IntKind.i64.wrap (i6 + (1 : Int))) && decide (IntKind.i64.wrap (i6 + (1 : Int)) ≤ s5.length)) (grd (decide (0 ≤ i6) && decide (i6 ≤ s5.length)) (some (Ex.exit 0, (a0, (t2.1, t2.2.1, t2.2.2), (x4.1, x4.2.1, s5.drop (IntKind.i64.wrap (i6 + (1 : Int))).toNat), s5.take i6.toNat, i6, ())))))
        (some (Ex.normal, (a0, (t2.1, t2.2.1, t2.2.2), (x4.1, x4.2.1, x4.2.2), s5, IntKind.i64.wrap (i6 + (1 : Int)), ())))))
    (some (Ex.exit 0, (a0, (t2.1, t2.2.1, t2.2.2), (x4.1, x4.2.1, x4.2.2), s5, i6, ())))
def r_parse (a0 : List UInt8) : Option (((Bool × (List UInt8) × List UInt8) × Bool × Unit) × Unit) :=
  cond (!(a0 == ([] : List UInt8)))
    (grd (decide (0 ≤ (0 : Int)) && decide ((0 : Int) < a0.length)) (
      cond (((a0.getD (0 : Int).toNat 0).toNat : Int) == (45 : Int))
        (grd (decide (0 ≤ (1 : Int)) && decide ((1 : Int) ≤ a0.length)) (
          (loopO r_parse_s6 (a0, (false, ([] : List UInt8), ([] : List UInt8)), (true, ([] : List UInt8), ([49] : List UInt8)), a0.drop (1 : Int).toNat, 0, ())).bind fun y1 =>
          cond (Ex.same y1.1 (Ex.exit 0))
            ((r_digits y1.2.2.2.2.1).bind fun r2 =>
            cond (!r2.1.1)
              (some (((false, ([] : List UInt8), ([] : List UInt8)), false, ()), ()))
              ((r_digits y1.2.2.2.1.2.2).bind fun r3 =>
              cond (!r3.1.1)
                (some (((false, ([] : List UInt8), ([] : List UInt8)), false, ()), ()))
                (cond (y1.2.2.2.1.2.2 == ([48] : List UInt8))
                  (some (((false, ([] : List UInt8), ([] : List UInt8)), false, ()), ()))
                  ((r_trim y1.2.2.2.2.1).bind fun r4 =>
                  cond (!(r4.1.1 == y1.2.2.2.2.1))
                    (some (((false, ([] : List UInt8), ([] : List UInt8)), false, ()), ()))
                    ((r_trim y1.2.2.2.1.2.2).bind fun r5 =>
                    cond (!(r5.1.1 == y1.2.2.2.1.2.2))
                      (some (((false, ([] : List UInt8), ([] : List UInt8)), false, ()), ()))
                      ((r_reduce y1.2.2.2.1.1 y1.2.2.2.2.1 y1.2.2.2.1.2.2).bind fun r6 =>
                      (r_ratio_text (r6.1.1.1, r6.1.1.2.1, r6.1.1.2.2)).bind fun r7 =>
                      cond (!(r7.1.1 == y1.2.1))
                        (some (((false, ([] : List UInt8), ([] : List UInt8)), false, ()), ()))
                        (some (((y1.2.2.2.1.1, y1.2.2.2.2.1, y1.2.2.2.1.2.2), true, ()), ()))))))))
            (none)))
        ((loopO r_parse_s6 (a0, (false, ([] : List UInt8), ([] : List UInt8)), (false, ([] : List UInt8), ([49] : List UInt8)), a0, 0, ())).bind fun y8 =>
        cond (Ex.same y8.1 (Ex.exit 0))
          ((r_digits y8.2.2.2.2.1).bind fun r9 =>
          cond (!r9.1.1)
            (some (((false, ([] : List UInt8), ([] : List UInt8)), false, ()), ()))
            ((r_digits y8.2.2.2.1.2.2).bind fun r10 =>
            cond (!r10.1.1)
              (some (((false, ([] : List UInt8), ([] : List UInt8)), false, ()), ()))
              (cond (y8.2.2.2.1.2.2 == ([48] : List UInt8))
                (some (((false, ([] : List UInt8), ([] : List UInt8)), false, ()), ()))
                ((r_trim y8.2.2.2.2.1).bind fun r11 =>
                cond (!(r11.1.1 == y8.2.2.2.2.1))
                  (some (((false, ([] : List UInt8), ([] : List UInt8)), false, ()), ()))
                  ((r_trim y8.2.2.2.1.2.2).bind fun r12 =>
                  cond (!(r12.1.1 == y8.2.2.2.1.2.2))
                    (some (((false, ([] : List UInt8), ([] : List UInt8)), false, ()), ()))
                    ((r_reduce y8.2.2.2.1.1 y8.2.2.2.2.1 y8.2.2.2.1.2.2).bind fun r13 =>
                    (r_ratio_text (r13.1.1.1, r13.1.1.2.1, r13.1.1.2.2)).bind fun r14 =>
                    cond (!(r14.1.1 == y8.2.1))
                      (some (((false, ([] : List UInt8), ([] : List UInt8)), false, ()), ()))
                      (some (((y8.2.2.2.1.1, y8.2.2.2.2.1, y8.2.2.2.1.2.2), true, ()), ()))))))))
          (none))))
    ((loopO r_parse_s6 (a0, (false, ([] : List UInt8), ([] : List UInt8)), (false, ([] : List UInt8), ([49] : List UInt8)), a0, 0, ())).bind fun y15 =>
    cond (Ex.same y15.1 (Ex.exit 0))
      ((r_digits y15.2.2.2.2.1).bind fun r16 =>
      cond (!r16.1.1)
        (some (((false, ([] : List UInt8), ([] : List UInt8)), false, ()), ()))
        ((r_digits y15.2.2.2.1.2.2).bind fun r17 =>
        cond (!r17.1.1)
          (some (((false, ([] : List UInt8), ([] : List UInt8)), false, ()), ()))
          (cond (y15.2.2.2.1.2.2 == ([48] : List UInt8))
            (some (((false, ([] : List UInt8), ([] : List UInt8)), false, ()), ()))
            ((r_trim y15.2.2.2.2.1).bind fun r18 =>
            cond (!(r18.1.1 == y15.2.2.2.2.1))
              (some (((false, ([] : List UInt8), ([] : List UInt8)), false, ()), ()))
              ((r_trim y15.2.2.2.1.2.2).bind fun r19 =>
              cond (!(r19.1.1 == y15.2.2.2.1.2.2))
                (some (((false, ([] : List UInt8), ([] : List UInt8)), false, ()), ()))
                ((r_reduce y15.2.2.2.1.1 y15.2.2.2.2.1 y15.2.2.2.1.2.2).bind fun r20 =>
                (r_ratio_text (r20.1.1.1, r20.1.1.2.1, r20.1.1.2.2)).bind fun r21 =>
                cond (!(r21.1.1 == y15.2.1))
                  (some (((false, ([] : List UInt8), ([] : List UInt8)), false, ()), ()))
                  (some (((y15.2.2.2.1.1, y15.2.2.2.2.1, y15.2.2.2.1.2.2), true, ()), ()))))))))
      (none))
def r_mulMag_s6 (x : (List UInt8) × (List UInt8) × (List Int) × Int × Int × Unit) : Option (Ex × ((List UInt8) × (List UInt8) × (List Int) × Int × Int × Unit)) :=
  let a0 := x.1
  let b1 := x.2.1
  let out5 := x.2.2.1
  let i6 := x.2.2.2.1
  let j7 := x.2.2.2.2.1
  cond (decide (j7 < (b1.length : Int)))
    (grd (decide (0 ≤ IntKind.i64.wrap ((IntKind.i64.wrap (i6 + j7)) + (1 : Int))) && decide (IntKind.i64.wrap ((IntKind.i64.wrap (i6 + j7)) + (1 : Int)) < out5.length)) (grd (decide ((IntKind.i64.wrap ((IntKind.i64.wrap (i6 + j7)) + (1 : Int))).toNat < out5.length)) (grd (decide (0 ≤ i6) && decide (i6 < a0.length)) (grd (decide (0 ≤ j7) && decide (j7 < b1.length)) (grd (decide (0 ≤ IntKind.i64.wrap ((IntKind.i64.wrap (i6 + j7)) + (1 : Int))) && decide (IntKind.i64.wrap ((IntKind.i64.wrap (i6 + j7)) + (1 : Int)) < out5.length)) (grd (decide ((IntKind.i64.wrap ((IntKind.i64.wrap (i6 + j7)) + (1 : Int))).toNat < out5.length)) (some (Ex.normal, (a0, b1, out5.set ((IntKind.i64.wrap ((IntKind.i64.wrap (i6 + j7)) + (1 : Int))).toNat) (IntKind.i64.wrap ((out5.getD ((IntKind.i64.wrap ((IntKind.i64.wrap (i6 + j7)) + (1 : Int))).toNat) (0 : Int)) + (IntKind.i64.wrap ((IntKind.i64.wrap (IntKind.u8.wrap (((a0.getD i6.toNat 0).toNat : Int) - (48 : Int)))) * (IntKind.i64.wrap (IntKind.u8.wrap (((b1.getD j7.toNat 0).toNat : Int) - (48 : Int)))))))), i6, IntKind.i64.wrap (j7 + (1 : Int)), ())))))))))
    (some (Ex.exit 2, (a0, b1, out5, i6, j7, ())))
def r_mulMag_s3 (x : (List UInt8) × (List UInt8) × (List Int) × Int × Unit) : Option (Ex × ((List UInt8) × (List UInt8) × (List Int) × Int × Unit)) :=
  let a0 := x.1
  let b1 := x.2.1
  let out5 := x.2.2.1
  let i6 := x.2.2.2.1
  cond (decide (i6 < (a0.length : Int)))
    ((loopO r_mulMag_s6 (a0, b1, out5, i6, 0, ())).bind fun y1 =>
    cond (Ex.same y1.1 (Ex.exit 2))
      (some (Ex.normal, (y1.2.1, y1.2.2.1, y1.2.2.2.1, IntKind.i64.wrap (y1.2.2.2.2.1 + (1 : Int)), ())))
      (none))
    (some (Ex.exit 0, (a0, b1, out5, i6, ())))
def r_mulMag_s12 (x : (List Int) × (List Int) × Int × Int × Unit) : Option (Ex × ((List Int) × (List Int) × Int × Int × Unit)) :=
  let out5 := x.1
  let s8 := x.2.1
  let carry9 := x.2.2.1
  let k10 := x.2.2.2.1
  cond (decide (k10 ≥ (0 : Int)))
    (grd (decide (0 ≤ k10) && decide (k10 < out5.length)) (grd (decide (k10.toNat < out5.length)) (grd ((10 : Int) != 0) (grd (decide (0 ≤ k10) && decide (k10 < s8.length)) (grd (decide (k10.toNat < s8.length)) (grd ((10 : Int) != 0) (some (Ex.normal, (out5, s8.set k10.toNat (IntKind.u8.wrap (IntKind.i64.wrap ((48 : Int) + ((IntKind.i64.wrap ((out5.getD k10.toNat (0 : Int)) + carry9)).tmod 10)))), IntKind.i64.wrap ((IntKind.i64.wrap ((out5.getD k10.toNat (0 : Int)) + carry9)).tdiv 10), IntKind.i64.wrap (k10 - (1 : Int)), ())))))))))
    (some (Ex.exit 4, (out5, s8, carry9, k10, ())))
def r_mulMag (a0 : List UInt8) (b1 : List UInt8) : Option (((List UInt8) × Unit) × Unit) :=
  grd (decide (0 ≤ IntKind.i64.wrap ((a0.length : Int) + (b1.length : Int))) && decide (IntKind.i64.wrap ((a0.length : Int) + (b1.length : Int)) ≤ IntKind.i64.wrap ((a0.length : Int) + (b1.length : Int))) && decide (IntKind.i64.wrap ((a0.length : Int) + (b1.length : Int)) ≤ maxN)) (
    (loopO r_mulMag_s3 (a0, b1, List.replicate (IntKind.i64.wrap ((a0.length : Int) + (b1.length : Int))).toNat (0 : Int), 0, ())).bind fun y1 =>
    cond (Ex.same y1.1 (Ex.exit 0))
      (grd (decide (0 ≤ (y1.2.2.2.1.length : Int)) && decide ((y1.2.2.2.1.length : Int) ≤ (y1.2.2.2.1.length : Int)) && decide ((y1.2.2.2.1.length : Int) ≤ maxN)) (
        (loopO r_mulMag_s12 (y1.2.2.2.1, List.replicate (y1.2.2.2.1.length : Int).toNat (0 : Int), 0, IntKind.i64.wrap ((y1.2.2.2.1.length : Int) - (1 : Int)), ())).bind fun y2 =>
        cond (Ex.same y2.1 (Ex.exit 4))
          ((r_trim (y2.2.2.1.map fun n => UInt8.ofNat n.toNat)).bind fun r3 =>
          some ((r3.1.1, ()), ()))
          (none)))
      (none))
def r_Div (a0 : List UInt8) (b1 : List UInt8) : Option (((List UInt8) × Unit) × Unit) :=
  (r_parse a0).bind fun r1 =>
  (r_parse b1).bind fun r2 =>
  cond (!r1.1.2.1)
    (some ((([] : List UInt8), ()), ()))
    (cond (!r2.1.2.1)
      (some ((([] : List UInt8), ()), ()))
      (cond (r2.1.1.2.1 == ([48] : List UInt8))
        (some ((([] : List UInt8), ()), ()))
        ((r_mulMag r1.1.1.2.1 r2.1.1.2.2).bind fun r3 =>
        (r_mulMag r1.1.1.2.2 r2.1.1.2.1).bind fun r4 =>
        (r_reduce (!(r1.1.1.1 == r2.1.1.1)) r3.1.1 r4.1.1).bind fun r5 =>
        (r_ratio_text (r5.1.1.1, r5.1.1.2.1, r5.1.1.2.2)).bind fun r6 =>
        some ((r6.1.1, ()), ()))))
def g_Choices_Next (c0 : (List Int) × Int) (n1 : Int) : Option ((Int × Unit) × (((List Int) × Int) × Unit)) :=
  cond (decide (c0.2 ≥ (c0.1.length : Int)))
    (some ((0, ()), (c0.1, c0.2), ()))
    (grd (decide (0 ≤ IntKind.i64.wrap ((IntKind.i64.wrap (c0.2 + (1 : Int))) - (1 : Int))) && decide (IntKind.i64.wrap ((IntKind.i64.wrap (c0.2 + (1 : Int))) - (1 : Int)) < c0.1.length)) (
      (g_Mod (c0.1.getD (IntKind.i64.wrap ((IntKind.i64.wrap (c0.2 + (1 : Int))) - (1 : Int))).toNat (0 : Int)) n1).bind fun r1 =>
      some ((r1.1.1, ()), (c0.1, IntKind.i64.wrap (c0.2 + (1 : Int))), ())))
def r_Mul (a0 : List UInt8) (b1 : List UInt8) : Option (((List UInt8) × Unit) × Unit) :=
  (r_parse a0).bind fun r1 =>
  (r_parse b1).bind fun r2 =>
  cond (!r1.1.2.1)
    (some ((([] : List UInt8), ()), ()))
    (cond (!r2.1.2.1)
      (some ((([] : List UInt8), ()), ()))
      ((r_mulMag r1.1.1.2.1 r2.1.1.2.1).bind fun r3 =>
      (r_mulMag r1.1.1.2.2 r2.1.1.2.2).bind fun r4 =>
      (r_reduce (!(r1.1.1.1 == r2.1.1.1)) r3.1.1 r4.1.1).bind fun r5 =>
      (r_ratio_text (r5.1.1.1, r5.1.1.2.1, r5.1.1.2.2)).bind fun r6 =>
      some ((r6.1.1, ()), ())))
def g_Choices_Integer (c0 : (List Int) × Int) : Option (((List UInt8) × Unit) × (((List Int) × Int) × Unit)) :=
  (g_Choices_Next (c0.1, c0.2) 8).bind fun r1 =>
  cond (r1.1.1 == (6 : Int))
    ((g_Choices_Next (r1.2.1.1, r1.2.1.2) 2001).bind fun r2 =>
    (r_FromInt (IntKind.i64.wrap (r2.1.1 - (1000 : Int)))).bind fun r3 =>
    some ((r3.1.1, ()), (r2.2.1.1, r2.2.1.2), ()))
    (cond (r1.1.1 == (7 : Int))
      ((g_Choices_Next (r1.2.1.1, r1.2.1.2) 1099511627776).bind fun r4 =>
      (r_FromInt (IntKind.i64.wrap (r4.1.1 - (549755813888 : Int)))).bind fun r5 =>
      (g_Choices_Next (r4.2.1.1, r4.2.1.2) 1099511627776).bind fun r6 =>
      (r_FromInt r6.1.1).bind fun r7 =>
      (r_Mul r5.1.1 r7.1.1).bind fun r8 =>
      some ((r8.1.1, ()), (r6.2.1.1, r6.2.1.2), ()))
      ((g_Choices_Next (r1.2.1.1, r1.2.1.2) 9).bind fun r9 =>
      (r_FromInt (IntKind.i64.wrap (r9.1.1 - (4 : Int)))).bind fun r10 =>
      some ((r10.1.1, ()), (r9.2.1.1, r9.2.1.2), ())))
def g_Choices_Number (c0 : (List Int) × Int) : Option (((List UInt8) × Unit) × (((List Int) × Int) × Unit)) :=
  (g_Choices_Integer (c0.1, c0.2)).bind fun r1 =>
  (g_Choices_Next (r1.2.1.1, r1.2.1.2) 4).bind fun r2 =>
  (r_FromInt (IntKind.i64.wrap ((1 : Int) + r2.1.1))).bind fun r3 =>
  (r_Div r1.1.1 r3.1.1).bind fun r4 =>
  some ((r4.1.1, ()), (r2.2.1.1, r2.2.1.2), ())
def r_Valid (a0 : List UInt8) : Option ((Bool × Unit) × Unit) :=
  (r_parse a0).bind fun r1 =>
  some ((r1.1.2.1, ()), ())
def l_pick (s0 : List UInt8) (l1 : List Int) : Option (((List UInt8) × Unit) × Unit) :=
  (l_short ([s0] : List (List UInt8))).bind fun r1 =>
  cond (r1.1.1)
    ((r_Valid s0).bind fun r2 =>
    cond (r2.1.1)
      (some ((s0, ()), ()))
      ((g_New l1).bind fun r3 =>
      (g_Choices_Number (r3.1.1.1, r3.1.1.2)).bind fun r4 =>
      some ((r4.1.1, ()), ())))
    ((g_New l1).bind fun r5 =>
    (g_Choices_Number (r5.1.1.1, r5.1.1.2)).bind fun r6 =>
    some ((r6.1.1, ()), ()))
def n_Sign (a0 : List UInt8) : Option ((Int × Unit) × Unit) :=
  (n_Valid a0).bind fun r1 =>
  cond (!r1.1.1)
    (some ((0, ()), ()))
    (cond (a0 == ([48] : List UInt8))
      (some ((0, ()), ()))
      (grd (decide (0 ≤ (0 : Int)) && decide ((0 : Int) < a0.length)) (
        cond (((a0.getD (0 : Int).toNat 0).toNat : Int) == (45 : Int))
          (some ((-1, ()), ()))
          (some ((1, ()), ())))))
def n_Neg (a0 : List UInt8) : Option (((List UInt8) × Unit) × Unit) :=
  (n_Sign a0).bind fun r1 =>
  cond (decide (r1.1.1 < (0 : Int)))
    (grd (decide (0 ≤ (1 : Int)) && decide ((1 : Int) ≤ a0.length)) (some ((a0.drop (1 : Int).toNat, ()), ())))
    ((n_Sign a0).bind fun r2 =>
    cond (decide (r2.1.1 > (0 : Int)))
      (grd (decide (([45] : List UInt8).length + a0.length ≤ maxS)) (some ((([45] : List UInt8) ++ a0, ()), ())))
      (cond (a0 == ([48] : List UInt8))
        (some ((a0, ()), ()))
        (some ((([] : List UInt8), ()), ()))))
def n_Sub (a0 : List UInt8) (b1 : List UInt8) : Option (((List UInt8) × Unit) × Unit) :=
  (n_Neg b1).bind fun r1 =>
  (n_Add a0 r1.1.1).bind fun r2 =>
  some ((r2.1.1, ()), ())
def n_Cmp (a0 : List UInt8) (b1 : List UInt8) : Option ((Int × Unit) × Unit) :=
  (n_Sub a0 b1).bind fun r1 =>
  (n_Sign r1.1.1).bind fun r2 =>
  some ((r2.1.1, ()), ())
def n_Mul_1 (x0 : Int × Int) (y1 : Int × Int) : Option (((List UInt8) × Unit) × Unit) :=
  (n_fraction (IntKind.i64.wrap (x0.1 * y1.1)) (IntKind.i64.wrap (x0.2 * y1.2))).bind fun r1 =>
  some ((r1.1.1, ()), ())
def n_rat_mul (x0 : Bool × (List Int) × List Int) (y1 : Bool × (List Int) × List Int) : Option (((Bool × (List Int) × List Int) × Unit) × Unit) :=
  (n_nat_mul x0.2.1 y1.2.1).bind fun r1 =>
  (n_nat_mul x0.2.2 y1.2.2).bind fun r2 =>
  (n_lowest (!(x0.1 == y1.1)) r1.1.1 r2.1.1).bind fun r3 =>
  some (((r3.1.1.1, r3.1.1.2.1, r3.1.1.2.2), ()), ())
def n_Mul_2 (x0 : Bool × (List Int) × List Int) (y1 : Bool × (List Int) × List Int) : Option (((List UInt8) × Unit) × Unit) :=
  (n_rat_mul (x0.1, x0.2.1, x0.2.2) (y1.1, y1.2.1, y1.2.2)).bind fun r1 =>
  (n_rat_text (r1.1.1.1, r1.1.1.2.1, r1.1.1.2.2)).bind fun r2 =>
  some ((r2.1.1, ()), ())
def n_two_m (a0 : List UInt8) (b1 : List UInt8) (small2 : Unit) (all3 : Unit) : Option (((List UInt8) × Unit) × Unit) :=
  (n_smallOf a0).bind fun r1 =>
  (n_smallOf b1).bind fun r2 =>
  cond (r1.1.2.1)
    (cond (r2.1.2.1)
      ((n_Mul_1 (r1.1.1.1, r1.1.1.2) (r2.1.1.1, r2.1.1.2)).bind fun r3 =>
      some ((r3.1.1, ()), ()))
      ((n_read a0).bind fun r4 =>
      (n_read b1).bind fun r5 =>
      cond (!r4.1.2.1)
        (some ((([] : List UInt8), ()), ()))
        (cond (!r5.1.2.1)
          (some ((([] : List UInt8), ()), ()))
          ((n_Mul_2 (r4.1.1.1, r4.1.1.2.1, r4.1.1.2.2) (r5.1.1.1, r5.1.1.2.1, r5.1.1.2.2)).bind fun r6 =>
          some ((r6.1.1, ()), ())))))
    ((n_read a0).bind fun r7 =>
    (n_read b1).bind fun r8 =>
    cond (!r7.1.2.1)
      (some ((([] : List UInt8), ()), ()))
      (cond (!r8.1.2.1)
        (some ((([] : List UInt8), ()), ()))
        ((n_Mul_2 (r7.1.1.1, r7.1.1.2.1, r7.1.1.2.2) (r8.1.1.1, r8.1.1.2.1, r8.1.1.2.2)).bind fun r9 =>
        some ((r9.1.1, ()), ()))))
def n_Mul (a0 : List UInt8) (b1 : List UInt8) : Option (((List UInt8) × Unit) × Unit) :=
  (n_two_m a0 b1 () ()).bind fun r1 =>
  some ((r1.1.1, ()), ())
def l_NumberOrder (a0 : List UInt8) (b1 : List UInt8) (c2 : List UInt8) (k3 : List Int) (l4 : List Int) (m5 : List Int) : Option ((Bool × Unit) × Unit) :=
  (l_pick a0 k3).bind fun r1 =>
  (l_pick b1 l4).bind fun r2 =>
  (l_pick c2 m5).bind fun r3 =>
  (n_Cmp r1.1.1 r2.1.1).bind fun r4 =>
  (n_Cmp r2.1.1 r1.1.1).bind fun r5 =>
  cond (r4.1.1 != (IntKind.i64.wrap (0 - r5.1.1)))
    (some ((false, ()), ()))
    (cond (!((r4.1.1 == (0 : Int)) == (r1.1.1 == r2.1.1)))
      (some ((false, ()), ()))
      ((n_Add r1.1.1 r3.1.1).bind fun r6 =>
      (n_Add r2.1.1 r3.1.1).bind fun r7 =>
      (n_Cmp r6.1.1 r7.1.1).bind fun r8 =>
      cond (r8.1.1 != r4.1.1)
        (some ((false, ()), ()))
        ((n_Mul r1.1.1 r3.1.1).bind fun r9 =>
        (n_Mul r2.1.1 r3.1.1).bind fun r10 =>
        (n_Cmp r9.1.1 r10.1.1).bind fun r11 =>
        (n_Sign r3.1.1).bind fun r12 =>
        cond (r11.1.1 != (IntKind.i64.wrap (r4.1.1 * r12.1.1)))
          (some ((false, ()), ()))
          (cond (decide (r4.1.1 ≤ (0 : Int)))
            ((n_Cmp r2.1.1 r3.1.1).bind fun r13 =>
            cond (decide (r13.1.1 ≤ (0 : Int)))
              ((n_Cmp r1.1.1 r3.1.1).bind fun r14 =>
              cond (decide (r14.1.1 > (0 : Int)))
                (some ((false, ()), ()))
                ((n_Sub r1.1.1 r2.1.1).bind fun r15 =>
                (n_Sign r15.1.1).bind fun r16 =>
                cond (r16.1.1 == r4.1.1)
                  (l_awake.bind fun r17 =>
                  some ((r17.1.1, ()), ()))
                  (some ((false, ()), ()))))
              ((n_Sub r1.1.1 r2.1.1).bind fun r18 =>
              (n_Sign r18.1.1).bind fun r19 =>
              cond (r19.1.1 == r4.1.1)
                (l_awake.bind fun r20 =>
                some ((r20.1.1, ()), ()))
                (some ((false, ()), ()))))
            ((n_Sub r1.1.1 r2.1.1).bind fun r21 =>
            (n_Sign r21.1.1).bind fun r22 =>
            cond (r22.1.1 == r4.1.1)
              (l_awake.bind fun r23 =>
              some ((r23.1.1, ()), ()))
              (some ((false, ()), ())))))))
def n_Div_1 (x0 : Int × Int) (y1 : Int × Int) : Option (((List UInt8) × Unit) × Unit) :=
  (n_fraction (IntKind.i64.wrap (x0.1 * y1.2)) (IntKind.i64.wrap (x0.2 * y1.1))).bind fun r1 =>
  some ((r1.1.1, ()), ())
def n_Div_2 (x0 : Bool × (List Int) × List Int) (y1 : Bool × (List Int) × List Int) : Option (((List UInt8) × Unit) × Unit) :=
  (n_rat_mul (x0.1, x0.2.1, x0.2.2) (y1.1, y1.2.2, y1.2.1)).bind fun r1 =>
  (n_rat_text (r1.1.1.1, r1.1.1.2.1, r1.1.1.2.2)).bind fun r2 =>
  some ((r2.1.1, ()), ())
def n_two_d (a0 : List UInt8) (b1 : List UInt8) (small2 : Unit) (all3 : Unit) : Option (((List UInt8) × Unit) × Unit) :=
  (n_smallOf a0).bind fun r1 =>
  (n_smallOf b1).bind fun r2 =>
  cond (r1.1.2.1)
    (cond (r2.1.2.1)
      ((n_Div_1 (r1.1.1.1, r1.1.1.2) (r2.1.1.1, r2.1.1.2)).bind fun r3 =>
      some ((r3.1.1, ()), ()))
      ((n_read a0).bind fun r4 =>
      (n_read b1).bind fun r5 =>
      cond (!r4.1.2.1)
        (some ((([] : List UInt8), ()), ()))
        (cond (!r5.1.2.1)
          (some ((([] : List UInt8), ()), ()))
          ((n_Div_2 (r4.1.1.1, r4.1.1.2.1, r4.1.1.2.2) (r5.1.1.1, r5.1.1.2.1, r5.1.1.2.2)).bind fun r6 =>
          some ((r6.1.1, ()), ())))))
    ((n_read a0).bind fun r7 =>
    (n_read b1).bind fun r8 =>
    cond (!r7.1.2.1)
      (some ((([] : List UInt8), ()), ()))
      (cond (!r8.1.2.1)
        (some ((([] : List UInt8), ()), ()))
        ((n_Div_2 (r7.1.1.1, r7.1.1.2.1, r7.1.1.2.2) (r8.1.1.1, r8.1.1.2.1, r8.1.1.2.2)).bind fun r9 =>
        some ((r9.1.1, ()), ()))))
def n_Div (a0 : List UInt8) (b1 : List UInt8) : Option (((List UInt8) × Unit) × Unit) :=
  cond (b1 == ([48] : List UInt8))
    (some ((([] : List UInt8), ()), ()))
    ((n_two_d a0 b1 () ()).bind fun r1 =>
    some ((r1.1.1, ()), ()))
def l_NumberField (a0 : List UInt8) (b1 : List UInt8) (c2 : List UInt8) (k3 : List Int) (l4 : List Int) (m5 : List Int) : Option ((Bool × Unit) × Unit) :=
  (l_pick a0 k3).bind fun r1 =>
  (l_pick b1 l4).bind fun r2 =>
  (l_pick c2 m5).bind fun r3 =>
  (n_Add r1.1.1 r2.1.1).bind fun r4 =>
  (n_Add r2.1.1 r1.1.1).bind fun r5 =>
  cond (!(r4.1.1 == r5.1.1))
    (some ((false, ()), ()))
    ((n_Mul r1.1.1 r2.1.1).bind fun r6 =>
    (n_Mul r2.1.1 r1.1.1).bind fun r7 =>
    cond (!(r6.1.1 == r7.1.1))
      (some ((false, ()), ()))
      ((n_Add r1.1.1 r2.1.1).bind fun r8 =>
      (n_Add r8.1.1 r3.1.1).bind fun r9 =>
      (n_Add r2.1.1 r3.1.1).bind fun r10 =>
      (n_Add r1.1.1 r10.1.1).bind fun r11 =>
      cond (!(r9.1.1 == r11.1.1))
        (some ((false, ()), ()))
        ((n_Mul r1.1.1 r2.1.1).bind fun r12 =>
        (n_Mul r12.1.1 r3.1.1).bind fun r13 =>
        (n_Mul r2.1.1 r3.1.1).bind fun r14 =>
        (n_Mul r1.1.1 r14.1.1).bind fun r15 =>
        cond (!(r13.1.1 == r15.1.1))
          (some ((false, ()), ()))
          ((n_Add r2.1.1 r3.1.1).bind fun r16 =>
          (n_Mul r1.1.1 r16.1.1).bind fun r17 =>
          (n_Mul r1.1.1 r2.1.1).bind fun r18 =>
          (n_Mul r1.1.1 r3.1.1).bind fun r19 =>
          (n_Add r18.1.1 r19.1.1).bind fun r20 =>
          cond (!(r17.1.1 == r20.1.1))
            (some ((false, ()), ()))
            ((n_Add r1.1.1 r2.1.1).bind fun r21 =>
            (n_Sub r21.1.1 r2.1.1).bind fun r22 =>
            cond (!(r22.1.1 == r1.1.1))
              (some ((false, ()), ()))
              ((n_Add r1.1.1 ([48] : List UInt8)).bind fun r23 =>
              cond (!(r23.1.1 == r1.1.1))
                (some ((false, ()), ()))
                ((n_Mul r1.1.1 ([49] : List UInt8)).bind fun r24 =>
                cond (!(r24.1.1 == r1.1.1))
                  (some ((false, ()), ()))
                  (cond (r2.1.1 == ([48] : List UInt8))
                    (l_awake.bind fun r25 =>
                    some ((r25.1.1, ()), ()))
                    ((n_Mul r1.1.1 r2.1.1).bind fun r26 =>
                    (n_Div r26.1.1 r2.1.1).bind fun r27 =>
                    cond (r27.1.1 == r1.1.1)
                      (l_awake.bind fun r28 =>
                      some ((r28.1.1, ()), ()))
                      (some ((false, ()), ())))))))))))
def n_Num (a0 : List UInt8) : Option (((List UInt8) × Unit) × Unit) :=
  (n_Valid a0).bind fun r1 =>
  cond (!r1.1.1)
    (some ((([] : List UInt8), ()), ()))
    ((strings_Cut a0 ([47] : List UInt8)).bind fun r2 =>
    some ((r2.1.1, ()), ()))
def n_Den (a0 : List UInt8) : Option (((List UInt8) × Unit) × Unit) :=
  (n_Valid a0).bind fun r1 =>
  cond (!r1.1.1)
    (some ((([] : List UInt8), ()), ()))
    ((strings_Cut a0 ([47] : List UInt8)).bind fun r2 =>
    cond (r2.1.2.2.1)
      (some ((r2.1.2.1, ()), ()))
      (some ((([49] : List UInt8), ()), ())))
def n_Floor (a0 : List UInt8) : Option (((List UInt8) × Unit) × Unit) :=
  (n_Num a0).bind fun r1 =>
  (n_Den a0).bind fun r2 =>
  (n_Quo r1.1.1 r2.1.1).bind fun r3 =>
  some ((r3.1.1, ()), ())
def n_Ceil (a0 : List UInt8) : Option (((List UInt8) × Unit) × Unit) :=
  (n_Neg a0).bind fun r1 =>
  (n_Floor r1.1.1).bind fun r2 =>
  (n_Neg r2.1.1).bind fun r3 =>
  some ((r3.1.1, ()), ())
def l_NumberRounding (a0 : List UInt8) (l1 : List Int) : Option ((Bool × Unit) × Unit) :=
  (l_pick a0 l1).bind fun r1 =>
  (n_Floor r1.1.1).bind fun r2 =>
  (n_Ceil r1.1.1).bind fun r3 =>
  (n_IsInt r2.1.1).bind fun r4 =>
  cond (!r4.1.1)
    (some ((false, ()), ()))
    ((n_IsInt r3.1.1).bind fun r5 =>
    cond (!r5.1.1)
      (some ((false, ()), ()))
      ((n_Cmp r2.1.1 r1.1.1).bind fun r6 =>
      cond (decide (r6.1.1 > (0 : Int)))
        (some ((false, ()), ()))
        ((n_Cmp r1.1.1 r3.1.1).bind fun r7 =>
        cond (decide (r7.1.1 > (0 : Int)))
          (some ((false, ()), ()))
          ((n_Sub r3.1.1 r2.1.1).bind fun r8 =>
          (n_Cmp r8.1.1 ([49] : List UInt8)).bind fun r9 =>
          cond (decide (r9.1.1 > (0 : Int)))
            (some ((false, ()), ()))
            ((n_Neg r1.1.1).bind fun r10 =>
            (n_Floor r10.1.1).bind fun r11 =>
            (n_Neg r11.1.1).bind fun r12 =>
            cond (!(r3.1.1 == r12.1.1))
              (some ((false, ()), ()))
              ((n_IsInt r1.1.1).bind fun r13 =>
              cond ((r2.1.1 == r3.1.1) == r13.1.1)
                ((n_IsInt r1.1.1).bind fun r14 =>
                cond ((r2.1.1 == r1.1.1) == r14.1.1)
                  (l_awake.bind fun r15 =>
                  some ((r15.1.1, ()), ()))
                  (some ((false, ()), ())))
                (some ((false, ()), ()))))))))
def n_Sum_s3 (x : (List UInt8) × (List (List UInt8)) × Int × Int × Unit) : Option (Ex × ((List UInt8) × (List (List UInt8)) × Int × Int × Unit)) :=
  let sum3 := x.1
  let t6 := x.2.1
  let t7 := x.2.2.1
  let t8 := x.2.2.2.1
  cond (decide (t8 < t7))
    (grd (decide (0 ≤ t8) && decide (t8 < t6.length)) (
      (n_Add sum3 (t6.getD t8.toNat ([] : List UInt8))).bind fun r1 =>
      some (Ex.normal, (r1.1.1, t6, t7, IntKind.i64.wrap (t8 + (1 : Int)), ()))))
    (some (Ex.exit 0, (sum3, t6, t7, t8, ())))
def n_Sum (l0 : List (List UInt8)) : Option (((List UInt8) × Unit) × Unit) :=
  (loopO n_Sum_s3 (([48] : List UInt8), l0, (l0.length : Int), 0, ())).bind fun y1 =>
  cond (Ex.same y1.1 (Ex.exit 0))
    (some ((y1.2.1, ()), ()))
    (none)
def r_addMag_s5 (x : (List UInt8) × (List UInt8) × Int × (List Int) × Int × Int × Unit) : Option (Ex × ((List UInt8) × (List UInt8) × Int × (List Int) × Int × Int × Unit)) :=
  let a0 := x.1
  let b1 := x.2.1
  let n5 := x.2.2.1
  let out6 := x.2.2.2.1
  let carry7 := x.2.2.2.2.1
  let i8 := x.2.2.2.2.2.1
  cond (decide (i8 < n5))
    (cond (decide (i8 < (a0.length : Int)))
      (grd (decide (0 ≤ IntKind.i64.wrap ((IntKind.i64.wrap ((a0.length : Int) - (1 : Int))) - i8)) && decide (IntKind.i64.wrap ((IntKind.i64.wrap ((a0.length : Int) - (1 : Int))) - i8) < a0.length)) (
        cond (decide (i8 < (b1.length : Int)))
          (grd (decide (0 ≤ IntKind.i64.wrap ((IntKind.i64.wrap ((b1.length : Int) - (1 : Int))) - i8)) && decide (IntKind.i64.wrap ((IntKind.i64.wrap ((b1.length : Int) - (1 : Int))) - i8) < b1.length)) (grd ((10 : Int) != 0) (grd (decide (0 ≤ IntKind.i64.wrap ((IntKind.i64.wrap (n5 - (1 : Int))) - i8)) && decide (IntKind.i64.wrap ((IntKind.i64.wrap (n5 - (1 : Int))) - i8) < out6.length)) (grd (decide ((IntKind.i64.wrap ((IntKind.i64.wrap (n5 - (1 : Int))) - i8)).toNat < out6.length)) (grd ((10 : Int) != 0) (some (Ex.normal, (a0, b1, n5, out6.set ((IntKind.i64.wrap ((IntKind.i64.wrap (n5 - (1 : Int))) - i8)).toNat) (IntKind.u8.wrap (IntKind.i64.wrap ((48 : Int) + ((IntKind.i64.wrap ((IntKind.i64.wrap (carry7 + (IntKind.i64.wrap (IntKind.u8.wrap (((a0.getD (IntKind.i64.wrap ((IntKind.i64.wrap ((a0.length : Int) - (1 : Int))) - i8)).toNat 0).toNat : Int) - (48 : Int)))))) + (IntKind.i64.wrap (IntKind.u8.wrap (((b1.getD (IntKind.i64.wrap ((IntKind.i64.wrap ((b1.length : Int) - (1 : Int))) - i8)).toNat 0).toNat : Int) - (48 : Int)))))).tmod 10)))), IntKind.i64.wrap ((IntKind.i64.wrap ((IntKind.i64.wrap (carry7 + (IntKind.i64.wrap (IntKind.u8.wrap (((a0.getD (IntKind.i64.wrap ((IntKind.i64.wrap ((a0.length : Int) - (1 : Int))) - i8)).toNat 0).toNat : Int) - (48 : Int)))))) + (IntKind.i64.wrap (IntKind.u8.wrap (((b1.getD (IntKind.i64.wrap ((IntKind.i64.wrap ((b1.length : Int) - (1 : Int))) - i8)).toNat 0).toNat : Int) - (48 : Int)))))).tdiv 10), IntKind.i64.wrap (i8 + (1 : Int)), ()))))))))
          (grd ((10 : Int) != 0) (grd (decide (0 ≤ IntKind.i64.wrap ((IntKind.i64.wrap (n5 - (1 : Int))) - i8)) && decide (IntKind.i64.wrap ((IntKind.i64.wrap (n5 - (1 : Int))) - i8) < out6.length)) (grd (decide ((IntKind.i64.wrap ((IntKind.i64.wrap (n5 - (1 : Int))) - i8)).toNat < out6.length)) (grd ((10 : Int) != 0) (some (Ex.normal, (a0, b1, n5, out6.set ((IntKind.i64.wrap ((IntKind.i64.wrap (n5 - (1 : Int))) - i8)).toNat) (IntKind.u8.wrap (IntKind.i64.wrap ((48 : Int) + ((IntKind.i64.wrap (carry7 + (IntKind.i64.wrap (IntKind.u8.wrap (((a0.getD (IntKind.i64.wrap ((IntKind.i64.wrap ((a0.length : Int) - (1 : Int))) - i8)).toNat 0).toNat : Int) - (48 : Int)))))).tmod 10)))), IntKind.i64.wrap ((IntKind.i64.wrap (carry7 + (IntKind.i64.wrap (IntKind.u8.wrap (((a0.getD (IntKind.i64.wrap ((IntKind.i64.wrap ((a0.length : Int) - (1 : Int))) - i8)).toNat 0).toNat : Int) - (48 : Int)))))).tdiv 10), IntKind.i64.wrap (i8 + (1 : Int)), ())))))))))
      (cond (decide (i8 < (b1.length : Int)))
        (grd (decide (0 ≤ IntKind.i64.wrap ((IntKind.i64.wrap ((b1.length : Int) - (1 : Int))) - i8)) && decide (IntKind.i64.wrap ((IntKind.i64.wrap ((b1.length : Int) - (1 : Int))) - i8) < b1.length)) (grd ((10 : Int) != 0) (grd (decide (0 ≤ IntKind.i64.wrap ((IntKind.i64.wrap (n5 - (1 : Int))) - i8)) && decide (IntKind.i64.wrap ((IntKind.i64.wrap (n5 - (1 : Int))) - i8) < out6.length)) (grd (decide ((IntKind.i64.wrap ((IntKind.i64.wrap (n5 - (1 : Int))) - i8)).toNat < out6.length)) (grd ((10 : Int) != 0) (some (Ex.normal, (a0, b1, n5, out6.set ((IntKind.i64.wrap ((IntKind.i64.wrap (n5 - (1 : Int))) - i8)).toNat) (IntKind.u8.wrap (IntKind.i64.wrap ((48 : Int) + ((IntKind.i64.wrap (carry7 + (IntKind.i64.wrap (IntKind.u8.wrap (((b1.getD (IntKind.i64.wrap ((IntKind.i64.wrap ((b1.length : Int) - (1 : Int))) - i8)).toNat 0).toNat : Int) - (48 : Int)))))).tmod 10)))), IntKind.i64.wrap ((IntKind.i64.wrap (carry7 + (IntKind.i64.wrap (IntKind.u8.wrap (((b1.getD (IntKind.i64.wrap ((IntKind.i64.wrap ((b1.length : Int) - (1 : Int))) - i8)).toNat 0).toNat : Int) - (48 : Int)))))).tdiv 10), IntKind.i64.wrap (i8 + (1 : Int)), ()))))))))
        (grd ((10 : Int) != 0) (grd (decide (0 ≤ IntKind.i64.wrap ((IntKind.i64.wrap (n5 - (1 : Int))) - i8)) && decide (IntKind.i64.wrap ((IntKind.i64.wrap (n5 - (1 : Int))) - i8) < out6.length)) (grd (decide ((IntKind.i64.wrap ((IntKind.i64.wrap (n5 - (1 : Int))) - i8)).toNat < out6.length)) (grd ((10 : Int) != 0) (some (Ex.normal, (a0, b1, n5, out6.set ((IntKind.i64.wrap ((IntKind.i64.wrap (n5 - (1 : Int))) - i8)).toNat) (IntKind.u8.wrap (IntKind.i64.wrap ((48 : Int) + (carry7.tmod 10)))), IntKind.i64.wrap (carry7.tdiv 10), IntKind.i64.wrap (i8 + (1 : Int)), ())))))))))
    (some (Ex.exit 0, (a0, b1, n5, out6, carry7, i8, ())))
def r_addMag (a0 : List UInt8) (b1 : List UInt8) : Option (((List UInt8) × Unit) × Unit) :=
  grd (decide (0 ≤ IntKind.i64.wrap ((maxA (a0.length : Int) (b1.length : Int)) + (1 : Int))) && decide (IntKind.i64.wrap ((maxA (a0.length : Int) (b1.length : Int)) + (1 : Int)) ≤ IntKind.i64.wrap ((maxA (a0.length : Int) (b1.length : Int)) + (1 : Int))) && decide (IntKind.i64.wrap ((maxA (a0.length : Int) (b1.length : Int)) + (1 : Int)) ≤ maxN)) (
    (loopO r_addMag_s5 (a0, b1, IntKind.i64.wrap ((maxA (a0.length : Int) (b1.length : Int)) + (1 : Int)), List.replicate (IntKind.i64.wrap ((maxA (a0.length : Int) (b1.length : Int)) + (1 : Int))).toNat (0 : Int), 0, 0, ())).bind fun y1 =>
    cond (Ex.same y1.1 (Ex.exit 0))
      ((r_trim (y1.2.2.2.2.1.map fun n => UInt8.ofNat n.toNat)).bind fun r2 =>
      some ((r2.1.1, ()), ()))
      (none))
def r_Add (a0 : List UInt8) (b1 : List UInt8) : Option (((List UInt8) × Unit) × Unit) :=
  (r_parse a0).bind fun r1 =>
  (r_parse b1).bind fun r2 =>
  cond (!r1.1.2.1)
    (some ((([] : List UInt8), ()), ()))
    (cond (!r2.1.2.1)
      (some ((([] : List UInt8), ()), ()))
      ((r_mulMag r1.1.1.2.1 r2.1.1.2.2).bind fun r3 =>
      (r_mulMag r2.1.1.2.1 r1.1.1.2.2).bind fun r4 =>
      (r_mulMag r1.1.1.2.2 r2.1.1.2.2).bind fun r5 =>
      cond (r1.1.1.1 == r2.1.1.1)
        ((r_addMag r3.1.1 r4.1.1).bind fun r6 =>
        (r_reduce r1.1.1.1 r6.1.1 r5.1.1).bind fun r7 =>
        (r_ratio_text (r7.1.1.1, r7.1.1.2.1, r7.1.1.2.2)).bind fun r8 =>
        some ((r8.1.1, ()), ()))
        ((r_cmpMag r3.1.1 r4.1.1).bind fun r9 =>
        cond (decide (r9.1.1 ≥ (0 : Int)))
          ((r_subMag r3.1.1 r4.1.1).bind fun r10 =>
          (r_reduce r1.1.1.1 r10.1.1 r5.1.1).bind fun r11 =>
          (r_ratio_text (r11.1.1.1, r11.1.1.2.1, r11.1.1.2.2)).bind fun r12 =>
          some ((r12.1.1, ()), ()))
          ((r_subMag r4.1.1 r3.1.1).bind fun r13 =>
          (r_reduce r2.1.1.1 r13.1.1 r5.1.1).bind fun r14 =>
          (r_ratio_text (r14.1.1.1, r14.1.1.2.1, r14.1.1.2.2)).bind fun r15 =>
          some ((r15.1.1, ()), ())))))
def r_Sum_s3 (x : (List (List UInt8)) × (List UInt8) × Int × Unit) : Option (Ex × ((List (List UInt8)) × (List UInt8) × Int × Unit)) :=
  let l0 := x.1
  let out3 := x.2.1
  let i4 := x.2.2.1
  cond (decide (i4 < (l0.length : Int)))
    (grd (decide (0 ≤ i4) && decide (i4 < l0.length)) (
      (r_Add out3 (l0.getD i4.toNat ([] : List UInt8))).bind fun r1 =>
      some (Ex.normal, (l0, r1.1.1, IntKind.i64.wrap (i4 + (1 : Int)), ()))))
    (some (Ex.exit 0, (l0, out3, i4, ())))
def r_Sum (l0 : List (List UInt8)) : Option (((List UInt8) × Unit) × Unit) :=
  (loopO r_Sum_s3 (l0, ([48] : List UInt8), 0, ())).bind fun y1 =>
  cond (Ex.same y1.1 (Ex.exit 0))
    (some ((y1.2.2.1, ()), ()))
    (none)
def n_best_s3 (x : Int × (List UInt8) × (List UInt8) × (List (List UInt8)) × Int × Int × Unit) : Option (Ex × (Int × (List UInt8) × (List UInt8) × (List (List UInt8)) × Int × Int × Unit)) :=
  let sign0 := x.1
  let t4 := x.2.1
  let out5 := x.2.2.1
  let t8 := x.2.2.2.1
  let t9 := x.2.2.2.2.1
  let t10 := x.2.2.2.2.2.1
  cond (decide (t10 < t9))
    (grd (decide (0 ≤ t10) && decide (t10 < t8.length)) (
      (n_Valid (t8.getD t10.toNat ([] : List UInt8))).bind fun r1 =>
      cond (!r1.1.1)
        (some (Ex.ret, (sign0, ([] : List UInt8), out5, t8, t9, t10, ())))
        (cond (t10 == (0 : Int))
          (some (Ex.normal, (sign0, t4, t8.getD t10.toNat ([] : List UInt8), t8, t9, IntKind.i64.wrap (t10 + (1 : Int)), ())))
          ((n_Cmp (t8.getD t10.toNat ([] : List UInt8)) out5).bind fun r2 =>
          cond (r2.1.1 == sign0)
            (some (Ex.normal, (sign0, t4, t8.getD t10.toNat ([] : List UInt8), t8, t9, IntKind.i64.wrap (t10 + (1 : Int)), ())))
            (some (Ex.normal, (sign0, t4, out5, t8, t9, IntKind.i64.wrap (t10 + (1 : Int)), ())))))))
    (some (Ex.exit 0, (sign0, t4, out5, t8, t9, t10, ())))
def n_best (sign0 : Int) (l1 : List (List UInt8)) : Option (((List UInt8) × Unit) × Unit) :=
  (loopO n_best_s3 (sign0, ([] : List UInt8), ([] : List UInt8), l1, (l1.length : Int), 0, ())).bind fun y1 =>
  cond (Ex.same y1.1 (Ex.exit 0))
    (some ((y1.2.2.2.1, ()), ()))
    (cond (Ex.same y1.1 Ex.ret)
      (some ((y1.2.2.1, ()), ()))
      (none))
def n_Min (l0 : List (List UInt8)) : Option (((List UInt8) × Unit) × Unit) :=
  (n_best (-1) l0).bind fun r1 =>
  some ((r1.1.1, ()), ())
def r_Neg (a0 : List UInt8) : Option (((List UInt8) × Unit) × Unit) :=
  (r_parse a0).bind fun r1 =>
  cond (!r1.1.2.1)
    (some ((([] : List UInt8), ()), ()))
    (cond (!r1.1.1.1)
      ((r_ratio_text (!(r1.1.1.2.1 == ([48] : List UInt8)), r1.1.1.2.1, r1.1.1.2.2)).bind fun r2 =>
      some ((r2.1.1, ()), ()))
      ((r_ratio_text (false, r1.1.1.2.1, r1.1.1.2.2)).bind fun r3 =>
      some ((r3.1.1, ()), ())))
def r_Sub (a0 : List UInt8) (b1 : List UInt8) : Option (((List UInt8) × Unit) × Unit) :=
  (r_Neg b1).bind fun r1 =>
  (r_Add a0 r1.1.1).bind fun r2 =>
  some ((r2.1.1, ()), ())
def r_Sign (a0 : List UInt8) : Option ((Int × Unit) × Unit) :=
  (r_parse a0).bind fun r1 =>
  cond (!r1.1.2.1)
    (some ((0, ()), ()))
    (cond (r1.1.1.2.1 == ([48] : List UInt8))
      (some ((0, ()), ()))
      (cond (r1.1.1.1)
        (some ((-1, ()), ()))
        (some ((1, ()), ()))))
def r_Cmp (a0 : List UInt8) (b1 : List UInt8) : Option ((Int × Unit) × Unit) :=
  (r_Valid a0).bind fun r1 =>
  cond (!r1.1.1)
    (some ((0, ()), ()))
    ((r_Valid b1).bind fun r2 =>
    cond (!r2.1.1)
      (some ((0, ()), ()))
      ((r_Sub a0 b1).bind fun r3 =>
      (r_Sign r3.1.1).bind fun r4 =>
      some ((r4.1.1, ()), ())))
def r_Min_s3 (x : (List (List UInt8)) × (List UInt8) × (List UInt8) × Int × Unit) : Option (Ex × ((List (List UInt8)) × (List UInt8) × (List UInt8) × Int × Unit)) :=
  let l0 := x.1
  let t2 := x.2.1
  let out3 := x.2.2.1
  let i4 := x.2.2.2.1
  cond (decide (i4 < (l0.length : Int)))
    (grd (decide (0 ≤ i4) && decide (i4 < l0.length)) (
      (r_Valid (l0.getD i4.toNat ([] : List UInt8))).bind fun r1 =>
      cond (!r1.1.1)
        (some (Ex.ret, (l0, ([] : List UInt8), out3, i4, ())))
        (cond (i4 == (0 : Int))
          (grd (decide (0 ≤ i4) && decide (i4 < l0.length)) (some (Ex.normal, (l0, t2, l0.getD i4.toNat ([] : List UInt8), IntKind.i64.wrap (i4 + (1 : Int)), ()))))
          (grd (decide (0 ≤ i4) && decide (i4 < l0.length)) (
            (r_Cmp (l0.getD i4.toNat ([] : List UInt8)) out3).bind fun r2 =>
            cond (decide (r2.1.1 < (0 : Int)))
              (grd (decide (0 ≤ i4) && decide (i4 < l0.length)) (some (Ex.normal, (l0, t2, l0.getD i4.toNat ([] : List UInt8), IntKind.i64.wrap (i4 + (1 : Int)), ()))))
              (some (Ex.normal, (l0, t2, out3, IntKind.i64.wrap (i4 + (1 : Int)), ()))))))))
    (some (Ex.exit 0, (l0, t2, out3, i4, ())))
def r_Min (l0 : List (List UInt8)) : Option (((List UInt8) × Unit) × Unit) :=
  (loopO r_Min_s3 (l0, ([] : List UInt8), ([] : List UInt8), 0, ())).bind fun y1 =>
  cond (Ex.same y1.1 (Ex.exit 0))
    (some ((y1.2.2.2.1, ()), ()))
    (cond (Ex.same y1.1 Ex.ret)
      (some ((y1.2.2.1, ()), ()))
      (none))
def n_Max (l0 : List (List UInt8)) : Option (((List UInt8) × Unit) × Unit) :=
  (n_best 1 l0).bind fun r1 =>
  some ((r1.1.1, ()), ())
def r_Max_s3 (x : (List (List UInt8)) × (List UInt8) × (List UInt8) × Int × Unit) : Option (Ex × ((List (List UInt8)) × (List UInt8) × (List UInt8) × Int × Unit)) :=
  let l0 := x.1
  let t2 := x.2.1
  let out3 := x.2.2.1
  let i4 := x.2.2.2.1
  cond (decide (i4 < (l0.length : Int)))
    (grd (decide (0 ≤ i4) && decide (i4 < l0.length)) (
      (r_Valid (l0.getD i4.toNat ([] : List UInt8))).bind fun r1 =>
      cond (!r1.1.1)
        (some (Ex.ret, (l0, ([] : List UInt8), out3, i4, ())))
        (cond (i4 == (0 : Int))
          (grd (decide (0 ≤ i4) && decide (i4 < l0.length)) (some (Ex.normal, (l0, t2, l0.getD i4.toNat ([] : List UInt8), IntKind.i64.wrap (i4 + (1 : Int)), ()))))
          (grd (decide (0 ≤ i4) && decide (i4 < l0.length)) (
            (r_Cmp (l0.getD i4.toNat ([] : List UInt8)) out3).bind fun r2 =>
            cond (decide (r2.1.1 > (0 : Int)))
              (grd (decide (0 ≤ i4) && decide (i4 < l0.length)) (some (Ex.normal, (l0, t2, l0.getD i4.toNat ([] : List UInt8), IntKind.i64.wrap (i4 + (1 : Int)), ()))))
              (some (Ex.normal, (l0, t2, out3, IntKind.i64.wrap (i4 + (1 : Int)), ()))))))))
    (some (Ex.exit 0, (l0, t2, out3, i4, ())))
def r_Max (l0 : List (List UInt8)) : Option (((List UInt8) × Unit) × Unit) :=
  (loopO r_Max_s3 (l0, ([] : List UInt8), ([] : List UInt8), 0, ())).bind fun y1 =>
  cond (Ex.same y1.1 (Ex.exit 0))
    (some ((y1.2.2.2.1, ()), ()))
    (cond (Ex.same y1.1 Ex.ret)
      (some ((y1.2.2.1, ()), ()))
      (none))
def l_NumberLists_s8 (x : (List (List UInt8)) × Bool × ((List Int) × Int) × (List (List UInt8)) × (List (List UInt8)) × Int × Unit) : Option (Ex × ((List (List UInt8)) × Bool × ((List Int) × Int) × (List (List UInt8)) × (List (List UInt8)) × Int × Unit)) :=
  let l0 := x.1
  let t4 := x.2.1
  let c5 := x.2.2.1
  let x6 := x.2.2.2.1
  let back7 := x.2.2.2.2.1
  let i8 := x.2.2.2.2.2.1
  cond (decide (i8 < (l0.length : Int)))
    ((g_Choices_Number (c5.1, c5.2)).bind fun r1 =>
    grd (decide (x6.length + ([r1.1.1] : List (List UInt8)).length ≤ maxN)) (
      grd (decide (0 ≤ i8) && decide (i8 < (x6 ++ ([r1.1.1] : List (List UInt8))).length)) (
        grd (decide (i8.toNat < (x6 ++ ([r1.1.1] : List (List UInt8))).length)) (
          cond (decide (0 < back7.length))
            (grd (decide (([(x6 ++ ([r1.1.1] : List (List UInt8))).getD i8.toNat ([] : List UInt8)] : List (List UInt8)).length + back7.length ≤ maxN)) (some (Ex.normal, (l0, t4, (r1.2.1.1, r1.2.1.2), x6 ++ ([r1.1.1] : List (List UInt8)), ([(x6 ++ ([r1.1.1] : List (List UInt8))).getD i8.toNat ([] : List UInt8)] : List (List UInt8)) ++ back7, IntKind.i64.wrap (i8 + (1 : Int)), ()))))
            (some (Ex.normal, (l0, t4, (r1.2.1.1, r1.2.1.2), x6 ++ ([r1.1.1] : List (List UInt8)), ([(x6 ++ ([r1.1.1] : List (List UInt8))).getD i8.toNat ([] : List UInt8)] : List (List UInt8)), IntKind.i64.wrap (i8 + (1 : Int)), ())))))))
    (some (Ex.exit 0, (l0, t4, (c5.1, c5.2), x6, back7, i8, ())))
def l_NumberLists_s14 (x : Bool × (List (List UInt8)) × (List (List UInt8)) × (List UInt8) × (List UInt8) × Int × Int × Unit) : Option (Ex × (Bool × (List (List UInt8)) × (List (List UInt8)) × (List UInt8) × (List UInt8) × Int × Int × Unit)) :=
  let t4 := x.1
  let x6 := x.2.1
  let back7 := x.2.2.1
  let least9 := x.2.2.2.1
  let most10 := x.2.2.2.2.1
  let found11 := x.2.2.2.2.2.1
  let i12 := x.2.2.2.2.2.2.1
  cond (decide (i12 < (x6.length : Int)))
    (grd (decide (0 ≤ i12) && decide (i12 < x6.length)) (
      grd (decide (i12.toNat < x6.length)) (
        (n_Cmp least9 (x6.getD i12.toNat ([] : List UInt8))).bind fun r1 =>
        cond (decide (r1.1.1 > (0 : Int)))
          (some (Ex.ret, (false, x6, back7, least9, most10, found11, i12, ())))
          (grd (decide (0 ≤ i12) && decide (i12 < x6.length)) (
            grd (decide (i12.toNat < x6.length)) (
              (n_Cmp most10 (x6.getD i12.toNat ([] : List UInt8))).bind fun r2 =>
              cond (decide (r2.1.1 < (0 : Int)))
                (some (Ex.ret, (false, x6, back7, least9, most10, found11, i12, ())))
                (grd (decide (0 ≤ i12) && decide (i12 < x6.length)) (
                  grd (decide (i12.toNat < x6.length)) (
                    cond ((x6.getD i12.toNat ([] : List UInt8)) == least9)
                      (grd (decide (0 ≤ i12) && decide (i12 < x6.length)) (
                        grd (decide (i12.toNat < x6.length)) (
                          cond ((x6.getD i12.toNat ([] : List UInt8)) == most10)
                            (some (Ex.normal, (t4, x6, back7, least9, most10, orI .i64 (orI .i64 found11 (1 : Int)) (2 : Int), IntKind.i64.wrap (i12 + (1 : Int)), ())))
                            (some (Ex.normal, (t4, x6, back7, least9, most10, orI .i64 found11 (1 : Int), IntKind.i64.wrap (i12 + (1 : Int)), ()))))))
                      (grd (decide (0 ≤ i12) && decide (i12 < x6.length)) (
                        grd (decide (i12.toNat < x6.length)) (
                          cond ((x6.getD i12.toNat ([] : List UInt8)) == most10)
                            (some (Ex.normal, (t4, x6, back7, least9, most10, orI .i64 found11 (2 : Int), IntKind.i64.wrap (i12 + (1 : Int)), ())))
                            (some (Ex.normal, (t4, x6, back7, least9, most10, found11, IntKind.i64.wrap (i12 + (1 : Int)), ())))))))))))))))
    (some (Ex.exit 2, (t4, x6, back7, least9, most10, found11, i12, ())))
def l_NumberLists (l0 : List (List UInt8)) (k1 : List Int) : Option ((Bool × Unit) × Unit) :=
  cond (decide ((l0.length : Int) > (10 : Int)))
    (l_awake.bind fun r1 =>
    some ((r1.1.1, ()), ()))
    ((l_short l0).bind fun r2 =>
    cond (!r2.1.1)
      (l_awake.bind fun r3 =>
      some ((r3.1.1, ()), ()))
      ((n_Sum l0).bind fun r4 =>
      (r_Sum l0).bind fun r5 =>
      cond (!(r4.1.1 == r5.1.1))
        (some ((false, ()), ()))
        ((n_Min l0).bind fun r6 =>
        (r_Min l0).bind fun r7 =>
        cond (!(r6.1.1 == r7.1.1))
          (some ((false, ()), ()))
          ((n_Max l0).bind fun r8 =>
          (r_Max l0).bind fun r9 =>
          cond (!(r8.1.1 == r9.1.1))
            (some ((false, ()), ()))
            ((g_New k1).bind fun r10 =>
            (loopO l_NumberLists_s8 (l0, false, (r10.1.1.1, r10.1.1.2), ([] : List (List UInt8)), ([] : List (List UInt8)), 0, ())).bind fun y11 =>
            cond (Ex.same y11.1 (Ex.exit 0))
              ((n_Min y11.2.2.2.2.1).bind fun r12 =>
              (n_Max y11.2.2.2.2.1).bind fun r13 =>
              (loopO l_NumberLists_s14 (y11.2.2.1, y11.2.2.2.2.1, y11.2.2.2.2.2.1, r12.1.1, r13.1.1, 0, 0, ())).bind fun y14 =>
              cond (Ex.same y14.1 (Ex.exit 2))
                ((n_Sum y14.2.2.1).bind fun r15 =>
                (n_Sum y14.2.2.2.1).bind fun r16 =>
                cond (r15.1.1 == r16.1.1)
                  (cond ((y14.2.2.1.length : Int) == (0 : Int))
                    (cond (y14.2.2.2.2.1 == ([] : List UInt8))
                      (cond (y14.2.2.2.2.2.1 == ([] : List UInt8))
                        (l_awake.bind fun r17 =>
                        some ((r17.1.1, ()), ()))
                        (cond (y14.2.2.2.2.2.2.1 == (3 : Int))
                          (l_awake.bind fun r18 =>
                          some ((r18.1.1, ()), ()))
                          (some ((false, ()), ()))))
                      (cond (y14.2.2.2.2.2.2.1 == (3 : Int))
                        (l_awake.bind fun r19 =>
                        some ((r19.1.1, ()), ()))
                        (some ((false, ()), ()))))
                    (cond (y14.2.2.2.2.2.2.1 == (3 : Int))
                      (l_awake.bind fun r20 =>
                      some ((r20.1.1, ()), ()))
                      (some ((false, ()), ()))))
                  (some ((false, ()), ())))
                (cond (Ex.same y14.1 Ex.ret)
                  (some ((y14.2.1, ()), ()))
                  (none)))
              (none))))))
def n_Gcd (a0 : List UInt8) (b1 : List UInt8) : Option (((List UInt8) × Unit) × Unit) :=
  (n_IsInt a0).bind fun r1 =>
  cond (!r1.1.1)
    (some ((([] : List UInt8), ()), ()))
    ((n_IsInt b1).bind fun r2 =>
    cond (!r2.1.1)
      (some ((([] : List UInt8), ()), ()))
      ((n_read a0).bind fun r3 =>
      (n_read b1).bind fun r4 =>
      (n_gcd r3.1.1.2.1 r4.1.1.2.1).bind fun r5 =>
      (n_nat_text r5.1.1).bind fun r6 =>
      some ((r6.1.1, ()), ())))
def l_NumberFraction (a0 : List UInt8) (l1 : List Int) : Option ((Bool × Unit) × Unit) :=
  (l_pick a0 l1).bind fun r1 =>
  (n_Num r1.1.1).bind fun r2 =>
  (n_Den r1.1.1).bind fun r3 =>
  (n_IsInt r2.1.1).bind fun r4 =>
  cond (r4.1.1)
    ((n_IsInt r3.1.1).bind fun r5 =>
    cond (r5.1.1)
      ((n_Sign r3.1.1).bind fun r6 =>
      cond (decide (r6.1.1 > (0 : Int)))
        ((n_Gcd r2.1.1 r3.1.1).bind fun r7 =>
        cond (r7.1.1 == ([49] : List UInt8))
          ((n_Div r2.1.1 r3.1.1).bind fun r8 =>
          cond (r8.1.1 == r1.1.1)
            ((n_IsInt r1.1.1).bind fun r9 =>
            cond ((r3.1.1 == ([49] : List UInt8)) == r9.1.1)
              ((n_Sign r2.1.1).bind fun r10 =>
              (n_Sign r1.1.1).bind fun r11 =>
              cond (r10.1.1 == r11.1.1)
                (l_awake.bind fun r12 =>
                some ((r12.1.1, ()), ()))
                (some ((false, ()), ())))
              (some ((false, ()), ())))
            (some ((false, ()), ())))
          (some ((false, ()), ())))
        (some ((false, ()), ())))
      (some ((false, ()), ())))
    (some ((false, ()), ()))
def r_IsInt (a0 : List UInt8) : Option ((Bool × Unit) × Unit) :=
  (r_parse a0).bind fun r1 =>
  cond (r1.1.2.1)
    (some ((r1.1.1.2.2 == ([49] : List UInt8), ()), ()))
    (some ((false, ()), ()))
def l_whole (s0 : List UInt8) (l1 : List Int) : Option (((List UInt8) × Unit) × Unit) :=
  (l_short ([s0] : List (List UInt8))).bind fun r1 =>
  cond (r1.1.1)
    ((r_IsInt s0).bind fun r2 =>
    cond (r2.1.1)
      (some ((s0, ()), ()))
      ((g_New l1).bind fun r3 =>
      (g_Choices_Integer (r3.1.1.1, r3.1.1.2)).bind fun r4 =>
      some ((r4.1.1, ()), ())))
    ((g_New l1).bind fun r5 =>
    (g_Choices_Integer (r5.1.1.1, r5.1.1.2)).bind fun r6 =>
    some ((r6.1.1, ()), ()))
def n_Abs (a0 : List UInt8) : Option (((List UInt8) × Unit) × Unit) :=
  (n_Sign a0).bind fun r1 =>
  cond (decide (r1.1.1 < (0 : Int)))
    (grd (decide (0 ≤ (1 : Int)) && decide ((1 : Int) ≤ a0.length)) (some ((a0.drop (1 : Int).toNat, ()), ())))
    ((n_Neg a0).bind fun r2 =>
    (n_Neg r2.1.1).bind fun r3 =>
    some ((r3.1.1, ()), ()))
def n_Lcm (a0 : List UInt8) (b1 : List UInt8) : Option (((List UInt8) × Unit) × Unit) :=
  (n_Gcd a0 b1).bind fun r1 =>
  cond (r1.1.1 == ([] : List UInt8))
    (some ((([] : List UInt8), ()), ()))
    (cond (a0 == ([48] : List UInt8))
      (some ((([48] : List UInt8), ()), ()))
      (cond (b1 == ([48] : List UInt8))
        (some ((([48] : List UInt8), ()), ()))
        ((n_Quo b1 r1.1.1).bind fun r2 =>
        (n_Mul a0 r2.1.1).bind fun r3 =>
        (n_Abs r3.1.1).bind fun r4 =>
        some ((r4.1.1, ()), ()))))
def l_NumberDivisors (a0 : List UInt8) (b1 : List UInt8) (c2 : List UInt8) (k3 : List Int) (l4 : List Int) (m5 : List Int) : Option ((Bool × Unit) × Unit) :=
  (l_whole a0 k3).bind fun r1 =>
  (l_whole b1 l4).bind fun r2 =>
  (l_whole c2 m5).bind fun r3 =>
  (n_Gcd r1.1.1 r2.1.1).bind fun r4 =>
  cond (r1.1.1 == ([48] : List UInt8))
    (cond (r2.1.1 == ([48] : List UInt8))
      (cond (r4.1.1 == ([48] : List UInt8))
        ((n_Lcm r1.1.1 r2.1.1).bind fun r5 =>
        cond (r5.1.1 == ([48] : List UInt8))
          (l_awake.bind fun r6 =>
          some ((r6.1.1, ()), ()))
          (some ((false, ()), ())))
        (some ((false, ()), ())))
      ((n_Sign r4.1.1).bind fun r7 =>
      cond (decide (r7.1.1 ≤ (0 : Int)))
        (some ((false, ()), ()))
        ((n_Rem r1.1.1 r4.1.1).bind fun r8 =>
        cond (!(r8.1.1 == ([48] : List UInt8)))
          (some ((false, ()), ()))
          ((n_Rem r2.1.1 r4.1.1).bind fun r9 =>
          cond (!(r9.1.1 == ([48] : List UInt8)))
            (some ((false, ()), ()))
            ((n_Lcm r1.1.1 r2.1.1).bind fun r10 =>
            (n_Mul r4.1.1 r10.1.1).bind fun r11 =>
            (n_Mul r1.1.1 r2.1.1).bind fun r12 =>
            (n_Abs r12.1.1).bind fun r13 =>
            cond (!(r11.1.1 == r13.1.1))
              (some ((false, ()), ()))
              (cond (!(r3.1.1 == ([48] : List UInt8)))
                ((n_Rem r1.1.1 r3.1.1).bind fun r14 =>
                cond (r14.1.1 == ([48] : List UInt8))
                  ((n_Rem r2.1.1 r3.1.1).bind fun r15 =>
                  cond (r15.1.1 == ([48] : List UInt8))
                    ((n_Rem r4.1.1 r3.1.1).bind fun r16 =>
                    cond (!(r16.1.1 == ([48] : List UInt8)))
                      (some ((false, ()), ()))
                      ((n_Mul r1.1.1 r3.1.1).bind fun r17 =>
                      (n_Mul r2.1.1 r3.1.1).bind fun r18 =>
                      (n_Gcd r17.1.1 r18.1.1).bind fun r19 =>
                      (n_Abs r3.1.1).bind fun r20 =>
                      (n_Mul r4.1.1 r20.1.1).bind fun r21 =>
                      cond (r19.1.1 == r21.1.1)
                        (l_awake.bind fun r22 =>
                        some ((r22.1.1, ()), ()))
                        (some ((false, ()), ()))))
                    ((n_Mul r1.1.1 r3.1.1).bind fun r23 =>
                    (n_Mul r2.1.1 r3.1.1).bind fun r24 =>
                    (n_Gcd r23.1.1 r24.1.1).bind fun r25 =>
                    (n_Abs r3.1.1).bind fun r26 =>
                    (n_Mul r4.1.1 r26.1.1).bind fun r27 =>
                    cond (r25.1.1 == r27.1.1)
                      (l_awake.bind fun r28 =>
                      some ((r28.1.1, ()), ()))
                      (some ((false, ()), ()))))
                  ((n_Mul r1.1.1 r3.1.1).bind fun r29 =>
                  (n_Mul r2.1.1 r3.1.1).bind fun r30 =>
                  (n_Gcd r29.1.1 r30.1.1).bind fun r31 =>
                  (n_Abs r3.1.1).bind fun r32 =>
                  (n_Mul r4.1.1 r32.1.1).bind fun r33 =>
                  cond (r31.1.1 == r33.1.1)
                    (l_awake.bind fun r34 =>
                    some ((r34.1.1, ()), ()))
                    (some ((false, ()), ()))))
                ((n_Mul r1.1.1 r3.1.1).bind fun r35 =>
                (n_Mul r2.1.1 r3.1.1).bind fun r36 =>
                (n_Gcd r35.1.1 r36.1.1).bind fun r37 =>
                (n_Abs r3.1.1).bind fun r38 =>
                (n_Mul r4.1.1 r38.1.1).bind fun r39 =>
                cond (r37.1.1 == r39.1.1)
                  (l_awake.bind fun r40 =>
                  some ((r40.1.1, ()), ()))
                  (some ((false, ()), ())))))))))
    ((n_Sign r4.1.1).bind fun r41 =>
    cond (decide (r41.1.1 ≤ (0 : Int)))
      (some ((false, ()), ()))
      ((n_Rem r1.1.1 r4.1.1).bind fun r42 =>
      cond (!(r42.1.1 == ([48] : List UInt8)))
        (some ((false, ()), ()))
        ((n_Rem r2.1.1 r4.1.1).bind fun r43 =>
        cond (!(r43.1.1 == ([48] : List UInt8)))
          (some ((false, ()), ()))
          ((n_Lcm r1.1.1 r2.1.1).bind fun r44 =>
          (n_Mul r4.1.1 r44.1.1).bind fun r45 =>
          (n_Mul r1.1.1 r2.1.1).bind fun r46 =>
          (n_Abs r46.1.1).bind fun r47 =>
          cond (!(r45.1.1 == r47.1.1))
            (some ((false, ()), ()))
            (cond (!(r3.1.1 == ([48] : List UInt8)))
              ((n_Rem r1.1.1 r3.1.1).bind fun r48 =>
              cond (r48.1.1 == ([48] : List UInt8))
                ((n_Rem r2.1.1 r3.1.1).bind fun r49 =>
                cond (r49.1.1 == ([48] : List UInt8))
                  ((n_Rem r4.1.1 r3.1.1).bind fun r50 =>
                  cond (!(r50.1.1 == ([48] : List UInt8)))
                    (some ((false, ()), ()))
                    ((n_Mul r1.1.1 r3.1.1).bind fun r51 =>
                    (n_Mul r2.1.1 r3.1.1).bind fun r52 =>
                    (n_Gcd r51.1.1 r52.1.1).bind fun r53 =>
                    (n_Abs r3.1.1).bind fun r54 =>
                    (n_Mul r4.1.1 r54.1.1).bind fun r55 =>
                    cond (r53.1.1 == r55.1.1)
                      (l_awake.bind fun r56 =>
                      some ((r56.1.1, ()), ()))
                      (some ((false, ()), ()))))
                  ((n_Mul r1.1.1 r3.1.1).bind fun r57 =>
                  (n_Mul r2.1.1 r3.1.1).bind fun r58 =>
                  (n_Gcd r57.1.1 r58.1.1).bind fun r59 =>
                  (n_Abs r3.1.1).bind fun r60 =>
                  (n_Mul r4.1.1 r60.1.1).bind fun r61 =>
                  cond (r59.1.1 == r61.1.1)
                    (l_awake.bind fun r62 =>
                    some ((r62.1.1, ()), ()))
                    (some ((false, ()), ()))))
                ((n_Mul r1.1.1 r3.1.1).bind fun r63 =>
                (n_Mul r2.1.1 r3.1.1).bind fun r64 =>
                (n_Gcd r63.1.1 r64.1.1).bind fun r65 =>
                (n_Abs r3.1.1).bind fun r66 =>
                (n_Mul r4.1.1 r66.1.1).bind fun r67 =>
                cond (r65.1.1 == r67.1.1)
                  (l_awake.bind fun r68 =>
                  some ((r68.1.1, ()), ()))
                  (some ((false, ()), ()))))
              ((n_Mul r1.1.1 r3.1.1).bind fun r69 =>
              (n_Mul r2.1.1 r3.1.1).bind fun r70 =>
              (n_Gcd r69.1.1 r70.1.1).bind fun r71 =>
              (n_Abs r3.1.1).bind fun r72 =>
              (n_Mul r4.1.1 r72.1.1).bind fun r73 =>
              cond (r71.1.1 == r73.1.1)
                (l_awake.bind fun r74 =>
                some ((r74.1.1, ()), ()))
                (some ((false, ()), ()))))))))
def l_NumberDivision (a0 : List UInt8) (b1 : List UInt8) (k2 : List Int) (l3 : List Int) : Option ((Bool × Unit) × Unit) :=
  (l_whole a0 k2).bind fun r1 =>
  (l_whole b1 l3).bind fun r2 =>
  (n_Quo r1.1.1 r2.1.1).bind fun r3 =>
  (n_Rem r1.1.1 r2.1.1).bind fun r4 =>
  cond (r2.1.1 == ([48] : List UInt8))
    (cond (r3.1.1 == ([] : List UInt8))
      (cond (r4.1.1 == ([] : List UInt8))
        (l_awake.bind fun r5 =>
        some ((r5.1.1, ()), ()))
        (some ((false, ()), ())))
      (some ((false, ()), ())))
    ((n_Mul r2.1.1 r3.1.1).bind fun r6 =>
    (n_Add r6.1.1 r4.1.1).bind fun r7 =>
    cond (!(r7.1.1 == r1.1.1))
      (some ((false, ()), ()))
      ((n_Sign r4.1.1).bind fun r8 =>
      cond (decide (r8.1.1 < (0 : Int)))
        (some ((false, ()), ()))
        ((n_Abs r2.1.1).bind fun r9 =>
        (n_Cmp r4.1.1 r9.1.1).bind fun r10 =>
        cond (decide (r10.1.1 ≥ (0 : Int)))
          (some ((false, ()), ()))
          ((n_Sign r2.1.1).bind fun r11 =>
          cond (decide (r11.1.1 < (0 : Int)))
            (l_awake.bind fun r12 =>
            some ((r12.1.1, ()), ()))
            ((n_Div r1.1.1 r2.1.1).bind fun r13 =>
            (n_Floor r13.1.1).bind fun r14 =>
            cond (r3.1.1 == r14.1.1)
              (l_awake.bind fun r15 =>
              some ((r15.1.1, ()), ()))
              (some ((false, ()), ())))))))
def r_Floor (a0 : List UInt8) : Option (((List UInt8) × Unit) × Unit) :=
  (r_parse a0).bind fun r1 =>
  cond (!r1.1.2.1)
    (some ((([] : List UInt8), ()), ()))
    ((r_divMag r1.1.1.2.1 r1.1.1.2.2).bind fun r2 =>
    cond (r1.1.1.1)
      (cond (!(r2.1.2.1 == ([48] : List UInt8)))
        ((r_addMag r2.1.1 ([49] : List UInt8)).bind fun r3 =>
        cond (r1.1.1.1)
          ((r_ratio_text (!(r3.1.1 == ([48] : List UInt8)), r3.1.1, ([49] : List UInt8))).bind fun r4 =>
          some ((r4.1.1, ()), ()))
          ((r_ratio_text (false, r3.1.1, ([49] : List UInt8))).bind fun r5 =>
          some ((r5.1.1, ()), ())))
        (cond (r1.1.1.1)
          ((r_ratio_text (!(r2.1.1 == ([48] : List UInt8)), r2.1.1, ([49] : List UInt8))).bind fun r6 =>
          some ((r6.1.1, ()), ()))
          ((r_ratio_text (false, r2.1.1, ([49] : List UInt8))).bind fun r7 =>
          some ((r7.1.1, ()), ()))))
      (cond (r1.1.1.1)
        ((r_ratio_text (!(r2.1.1 == ([48] : List UInt8)), r2.1.1, ([49] : List UInt8))).bind fun r8 =>
        some ((r8.1.1, ()), ()))
        ((r_ratio_text (false, r2.1.1, ([49] : List UInt8))).bind fun r9 =>
        some ((r9.1.1, ()), ()))))
def r_Num0 (a0 : List UInt8) : Option (((List UInt8) × Unit) × Unit) :=
  (r_Valid a0).bind fun r1 =>
  cond (!r1.1.1)
    (some ((([] : List UInt8), ()), ()))
    (some ((a0, ()), ()))
def r_Abs (a0 : List UInt8) : Option (((List UInt8) × Unit) × Unit) :=
  (r_Sign a0).bind fun r1 =>
  cond (decide (r1.1.1 < (0 : Int)))
    ((r_Neg a0).bind fun r2 =>
    some ((r2.1.1, ()), ()))
    ((r_Num0 a0).bind fun r3 =>
    some ((r3.1.1, ()), ()))
def r_Quo (a0 : List UInt8) (b1 : List UInt8) : Option (((List UInt8) × Unit) × Unit) :=
  (r_IsInt a0).bind fun r1 =>
  cond (!r1.1.1)
    (some ((([] : List UInt8), ()), ()))
    ((r_IsInt b1).bind fun r2 =>
    cond (!r2.1.1)
      (some ((([] : List UInt8), ()), ()))
      (cond (b1 == ([48] : List UInt8))
        (some ((([] : List UInt8), ()), ()))
        ((r_Abs b1).bind fun r3 =>
        (r_Div a0 r3.1.1).bind fun r4 =>
        (r_Floor r4.1.1).bind fun r5 =>
        (r_Sign b1).bind fun r6 =>
        cond (decide (r6.1.1 < (0 : Int)))
          ((r_Neg r5.1.1).bind fun r7 =>
          some ((r7.1.1, ()), ()))
          (some ((r5.1.1, ()), ())))))
def r_Rem (a0 : List UInt8) (b1 : List UInt8) : Option (((List UInt8) × Unit) × Unit) :=
  (r_Quo a0 b1).bind fun r1 =>
  cond (r1.1.1 == ([] : List UInt8))
    (some ((([] : List UInt8), ()), ()))
    ((r_Quo a0 b1).bind fun r2 =>
    (r_Mul b1 r2.1.1).bind fun r3 =>
    (r_Sub a0 r3.1.1).bind fun r4 =>
    some ((r4.1.1, ()), ()))
def r_Gcd (a0 : List UInt8) (b1 : List UInt8) : Option (((List UInt8) × Unit) × Unit) :=
  (r_IsInt a0).bind fun r1 =>
  cond (!r1.1.1)
    (some ((([] : List UInt8), ()), ()))
    ((r_IsInt b1).bind fun r2 =>
    cond (!r2.1.1)
      (some ((([] : List UInt8), ()), ()))
      ((r_Abs a0).bind fun r3 =>
      (r_Abs b1).bind fun r4 =>
      (r_gcdMag r3.1.1 r4.1.1).bind fun r5 =>
      some ((r5.1.1, ()), ())))
def r_Lcm (a0 : List UInt8) (b1 : List UInt8) : Option (((List UInt8) × Unit) × Unit) :=
  (r_IsInt a0).bind fun r1 =>
  cond (!r1.1.1)
    (some ((([] : List UInt8), ()), ()))
    ((r_IsInt b1).bind fun r2 =>
    cond (!r2.1.1)
      (some ((([] : List UInt8), ()), ()))
      (cond (a0 == ([48] : List UInt8))
        (some ((([48] : List UInt8), ()), ()))
        (cond (b1 == ([48] : List UInt8))
          (some ((([48] : List UInt8), ()), ()))
          ((r_Mul a0 b1).bind fun r3 =>
          (r_Gcd a0 b1).bind fun r4 =>
          (r_Div r3.1.1 r4.1.1).bind fun r5 =>
          (r_Abs r5.1.1).bind fun r6 =>
          some ((r6.1.1, ()), ())))))
def l_binary (a0 : List UInt8) (b1 : List UInt8) : Option ((Bool × Unit) × Unit) :=
  (n_Cmp a0 b1).bind fun r1 =>
  (r_Cmp a0 b1).bind fun r2 =>
  cond (r1.1.1 == r2.1.1)
    ((n_Add a0 b1).bind fun r3 =>
    (r_Add a0 b1).bind fun r4 =>
    cond (r3.1.1 == r4.1.1)
      ((n_Sub a0 b1).bind fun r5 =>
      (r_Sub a0 b1).bind fun r6 =>
      cond (r5.1.1 == r6.1.1)
        ((n_Mul a0 b1).bind fun r7 =>
        (r_Mul a0 b1).bind fun r8 =>
        cond (r7.1.1 == r8.1.1)
          ((n_Div a0 b1).bind fun r9 =>
          (r_Div a0 b1).bind fun r10 =>
          cond (r9.1.1 == r10.1.1)
            ((n_Quo a0 b1).bind fun r11 =>
            (r_Quo a0 b1).bind fun r12 =>
            cond (r11.1.1 == r12.1.1)
              ((n_Rem a0 b1).bind fun r13 =>
              (r_Rem a0 b1).bind fun r14 =>
              cond (r13.1.1 == r14.1.1)
                ((n_Gcd a0 b1).bind fun r15 =>
                (r_Gcd a0 b1).bind fun r16 =>
                cond (r15.1.1 == r16.1.1)
                  ((n_Lcm a0 b1).bind fun r17 =>
                  (r_Lcm a0 b1).bind fun r18 =>
                  some ((r17.1.1 == r18.1.1, ()), ()))
                  (some ((false, ()), ())))
                (some ((false, ()), ())))
              (some ((false, ()), ())))
            (some ((false, ()), ())))
          (some ((false, ()), ())))
        (some ((false, ()), ())))
      (some ((false, ()), ())))
    (some ((false, ()), ()))
def l_NumberBinary (a0 : List UInt8) (b1 : List UInt8) (l2 : List Int) (m3 : List Int) : Option ((Bool × Unit) × Unit) :=
  (l_short ([a0, b1] : List (List UInt8))).bind fun r1 =>
  cond (!r1.1.1)
    (l_awake.bind fun r2 =>
    some ((r2.1.1, ()), ()))
    ((g_New l2).bind fun r3 =>
    (g_Choices_Number (r3.1.1.1, r3.1.1.2)).bind fun r4 =>
    (g_New m3).bind fun r5 =>
    (g_Choices_Number (r5.1.1.1, r5.1.1.2)).bind fun r6 =>
    (l_binary a0 b1).bind fun r7 =>
    cond (r7.1.1)
      ((l_binary r4.1.1 r6.1.1).bind fun r8 =>
      cond (r8.1.1)
        ((l_pick a0 l2).bind fun r9 =>
        (l_binary r9.1.1 r6.1.1).bind fun r10 =>
        cond (r10.1.1)
          (l_awake.bind fun r11 =>
          some ((r11.1.1, ()), ()))
          (some ((false, ()), ())))
        (some ((false, ()), ())))
      (some ((false, ()), ())))
def n_FromInt (n0 : Int) : Option (((List UInt8) × Unit) × Unit) :=
  (strconv_Itoa n0).bind fun r1 =>
  some ((r1.1.1, ()), ())
def n_Int (a0 : List UInt8) : Option ((Int × Bool × Unit) × Unit) :=
  (n_IsInt a0).bind fun r1 =>
  cond (!r1.1.1)
    (some ((0, false, ()), ()))
    ((strconv_Atoi a0).bind fun r2 =>
    cond (r2.1.2.1)
      (some ((0, false, ()), ()))
      (some ((r2.1.1, true, ()), ())))
def l_NumberFromInt (n0 : Int) (m1 : Int) : Option ((Bool × Unit) × Unit) :=
  (n_FromInt n0).bind fun r1 =>
  (n_FromInt m1).bind fun r2 =>
  (n_Int r1.1.1).bind fun r3 =>
  cond (decide (n0 < m1))
    ((r_FromInt n0).bind fun r4 =>
    cond (r1.1.1 == r4.1.1)
      (cond (r3.1.2.1)
        (cond (r3.1.1 == n0)
          ((n_Cmp r1.1.1 r2.1.1).bind fun r5 =>
          cond (r5.1.1 == (-1 : Int))
            ((n_IsInt r1.1.1).bind fun r6 =>
            cond (r6.1.1)
              ((n_Sign r1.1.1).bind fun r7 =>
              (n_Cmp r1.1.1 ([48] : List UInt8)).bind fun r8 =>
              cond (r7.1.1 == r8.1.1)
                (l_awake.bind fun r9 =>
                some ((r9.1.1, ()), ()))
                (some ((false, ()), ())))
              (some ((false, ()), ())))
            (some ((false, ()), ())))
          (some ((false, ()), ())))
        (some ((false, ()), ())))
      (some ((false, ()), ())))
    (cond (decide (n0 > m1))
      ((r_FromInt n0).bind fun r10 =>
      cond (r1.1.1 == r10.1.1)
        (cond (r3.1.2.1)
          (cond (r3.1.1 == n0)
            ((n_Cmp r1.1.1 r2.1.1).bind fun r11 =>
            cond (r11.1.1 == (1 : Int))
              ((n_IsInt r1.1.1).bind fun r12 =>
              cond (r12.1.1)
                ((n_Sign r1.1.1).bind fun r13 =>
                (n_Cmp r1.1.1 ([48] : List UInt8)).bind fun r14 =>
                cond (r13.1.1 == r14.1.1)
                  (l_awake.bind fun r15 =>
                  some ((r15.1.1, ()), ()))
                  (some ((false, ()), ())))
                (some ((false, ()), ())))
              (some ((false, ()), ())))
            (some ((false, ()), ())))
          (some ((false, ()), ())))
        (some ((false, ()), ())))
      ((r_FromInt n0).bind fun r16 =>
      cond (r1.1.1 == r16.1.1)
        (cond (r3.1.2.1)
          (cond (r3.1.1 == n0)
            ((n_Cmp r1.1.1 r2.1.1).bind fun r17 =>
            cond (r17.1.1 == (0 : Int))
              ((n_IsInt r1.1.1).bind fun r18 =>
              cond (r18.1.1)
                ((n_Sign r1.1.1).bind fun r19 =>
                (n_Cmp r1.1.1 ([48] : List UInt8)).bind fun r20 =>
                cond (r19.1.1 == r20.1.1)
                  (l_awake.bind fun r21 =>
                  some ((r21.1.1, ()), ()))
                  (some ((false, ()), ())))
                (some ((false, ()), ())))
              (some ((false, ()), ())))
            (some ((false, ()), ())))
          (some ((false, ()), ())))
        (some ((false, ()), ()))))
end
end Go.AM.Num
end
