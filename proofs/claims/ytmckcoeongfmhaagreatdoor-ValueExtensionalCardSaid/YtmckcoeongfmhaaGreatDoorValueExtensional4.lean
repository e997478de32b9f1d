/- Law ValueExtensional of the values: a machine of plain values, what the program's functions compute in it, and what that is. No condition beyond what the statement says. -/
import Derived.Test.YtmckcoeongfmhaaGreatDoorValueExtensional3
import Derived.Test.YtmckcoeongfmhaaGreatDoorProg
import Derived.TacticsInMore
import Derived.LoopNIn
import Derived.LoopIn
import Derived.RangeFuncLeaves
import Derived.RangeFuncBox
import Derived.RangeFuncWrites
import Derived.RangeFuncNested
import Derived.OwnWalkIn
import Derived.Shelf.Abstract
import Derived.WalkKit
import Derived.Lib.Walk
import Derived.BigCall
import Derived.BigGuard
set_option linter.unusedSimpArgs false
set_option linter.unusedVariables false
section
namespace Go.AM.Num
set_option maxRecDepth 100000
set_option linter.unusedVariables false
noncomputable section
def big : Nat := 2 ^ 64
@[reducible] def gVr : GT := (.pair .str (.int .i64))
abbrev Vr := (List UInt8) × Int
abbrev zVr : Vr := (([] : List UInt8), (0 : Int))
@[reducible] def gSml : GT := (.pair (.int .i64) (.int .i64))
abbrev Sml := Int × Int
@[reducible] def gChoices : GT := (.pair (.sl (.int .i64)) (.int .i64))
abbrev Choices := (List Int) × Int
@[reducible] def gRatio : GT := (.pair .bool (.pair .str .str))
abbrev Ratio := Bool × (List UInt8) × List UInt8
@[reducible] def gRt : GT := (.pair .bool (.pair (.sl (.int .u32)) (.sl (.int .u32))))
abbrev Rt := Bool × (List Int) × List Int
@[reducible] def gNod : GT := (.pair (.int .i64) (.pair (.int .i64) (.pair .str gVr)))
abbrev Nod := Int × Int × (List UInt8) × Vr
abbrev zNod : Nod := ((0 : Int), (0 : Int), ([] : List UInt8), ([] : List UInt8), (0 : Int))
@[reducible] def gVal : GT := (.pair (.int .i64) (.pair .bool (.pair .str (.pair (.sl .str) (.sl .str)))))
abbrev Val := Int × Bool × (List UInt8) × (List (List UInt8)) × List (List UInt8)
abbrev zVal : Val := ((0 : Int), false, ([] : List UInt8), ([] : List (List UInt8)), ([] : List (List UInt8)))
@[reducible] def gBind : GT := (.pair .str gVal)
abbrev Bind := (List UInt8) × Val
abbrev zBind : Bind := (([] : List UInt8), (0 : Int), false, ([] : List UInt8), ([] : List (List UInt8)), ([] : List (List UInt8)))
@[reducible] def gView : GT := (.pair (.sl gNod) (.sl (.pair (.int .i64) gSml)))
abbrev View := (List Nod) × List (Int × Sml)
abbrev zView : View := (([] : List Nod), ([] : List (Int × Sml)))
@[reducible] def gInterp : GT := (.pair .str (.pair (.sl (.sl gVal)) (.pair (.sl gVal) gVal)))
abbrev Interp := (List UInt8) × (List (List Val)) × (List Val) × Val
abbrev zInterp : Interp := (([] : List UInt8), ([] : List (List Val)), ([] : List Val), (0 : Int), false, ([] : List UInt8), ([] : List (List UInt8)), ([] : List (List UInt8)))
@[reducible] def gEvl : GT := (.pair (.sl gNod) (.pair (.int .i64) (.pair (.map gVal) (.map gInterp))))
abbrev Evl := (List Nod) × Int × (List (List UInt8 × Val)) × List (List UInt8 × Interp)
def g_New (l0 : List Int) : Option ((Choices × Unit) × Unit) :=
  grd (decide (0 ≤ minA (l0.length : Int) (400 : Int)) && decide (minA (l0.length : Int) (400 : Int) ≤ l0.length)) (some (((l0.take (minA (l0.length : Int) (400 : Int)).toNat, (0 : Int)), ()), ()))
def g_Mod (v0 : Int) (n1 : Int) : Option ((Int × Unit) × Unit) :=
  grd ((IntKind.u64.wrap (n1)) != 0) (some ((IntKind.i64.wrap ((IntKind.u64.wrap (v0)).tmod (IntKind.u64.wrap (n1))), ()), ()))
def g_Choices_Next (c0 : Choices) (n1 : Int) : Option ((Int × Unit) × (Choices × Unit)) :=
  cond (decide (c0.2 ≥ (c0.1.length : Int)))
    (some ((0, ()), (c0.1, c0.2), ()))
    (grd (decide (0 ≤ IntKind.i64.wrap ((IntKind.i64.wrap (c0.2 + (1 : Int))) - (1 : Int))) && decide (IntKind.i64.wrap ((IntKind.i64.wrap (c0.2 + (1 : Int))) - (1 : Int)) < c0.1.length)) (
      (g_Mod (c0.1.getD (IntKind.i64.wrap ((IntKind.i64.wrap (c0.2 + (1 : Int))) - (1 : Int))).toNat (0 : Int)) n1).bind fun r1 =>
      some ((r1.1.1, ()), (c0.1, IntKind.i64.wrap (c0.2 + (1 : Int))), ())))
def r_FromInt_s3 (x : Int × (List UInt8) × Int × Unit) : Option (Ex × (Int × (List UInt8) × Int × Unit)) :=
  let n0 := x.1
  let s3 := x.2.1
  let v4 := x.2.2.1
  cond (v4 != (0 : Int))
    (grd ((10 : Int) != 0) (
      cond (decide ((v4.tmod 10) < (0 : Int)))
        (grd (decide ((([IntKind.u8.wrap (IntKind.i64.wrap ((48 : Int) + (IntKind.i64.wrap (0 - (v4.tmod 10)))))] : List Int).map fun n => UInt8.ofNat n.toNat).length + s3.length ≤ maxS)) (grd ((10 : Int) != 0) (some (Ex.normal, (n0, (([IntKind.u8.wrap (IntKind.i64.wrap ((48 : Int) + (IntKind.i64.wrap (0 - (v4.tmod 10)))))] : List Int).map fun n => UInt8.ofNat n.toNat) ++ s3, IntKind.i64.wrap (v4.tdiv 10), ())))))
        (grd (decide ((([IntKind.u8.wrap (IntKind.i64.wrap ((48 : Int) + (v4.tmod 10)))] : List Int).map fun n => UInt8.ofNat n.toNat).length + s3.length ≤ maxS)) (grd ((10 : Int) != 0) (some (Ex.normal, (n0, (([IntKind.u8.wrap (IntKind.i64.wrap ((48 : Int) + (v4.tmod 10)))] : List Int).map fun n => UInt8.ofNat n.toNat) ++ s3, IntKind.i64.wrap (v4.tdiv 10), ())))))))
    (cond (s3 == ([] : List UInt8))
      (grd ((10 : Int) != 0) (
        cond (decide ((v4.tmod 10) < (0 : Int)))
          (grd (decide ((([IntKind.u8.wrap (IntKind.i64.wrap ((48 : Int) + (IntKind.i64.wrap (0 - (v4.tmod 10)))))] : List Int).map fun n => UInt8.ofNat n.toNat).length + s3.length ≤ maxS)) (grd ((10 : Int) != 0) (some (Ex.normal, (n0, (([IntKind.u8.wrap (IntKind.i64.wrap ((48 : Int) + (IntKind.i64.wrap (0 - (v4.tmod 10)))))] : List Int).map fun n => UInt8.ofNat n.toNat) ++ s3, IntKind.i64.wrap (v4.tdiv 10), ())))))
          (grd (decide ((([IntKind.u8.wrap (IntKind.i64.wrap ((48 : Int) + (v4.tmod 10)))] : List Int).map fun n => UInt8.ofNat n.toNat).length + s3.length ≤ maxS)) (grd ((10 : Int) != 0) (some (Ex.normal, (n0, (([IntKind.u8.wrap (IntKind.i64.wrap ((48 : Int) + (v4.tmod 10)))] : List Int).map fun n => UInt8.ofNat n.toNat) ++ s3, IntKind.i64.wrap (v4.tdiv 10), ())))))))
      (some (Ex.exit 0, (n0, s3, v4, ()))))
def r_FromInt (n0 : Int) : Option (((List UInt8) × Unit) × Unit) :=
  (loopO r_FromInt_s3 (n0, ([] : List UInt8), n0, ())).bind fun y1 =>
  cond (Ex.same y1.1 (Ex.exit 0))
    (cond (decide (y1.2.1 < (0 : Int)))
      (grd (decide (([45] : List UInt8).length + y1.2.2.1.length ≤ maxS)) (some ((([45] : List UInt8) ++ y1.2.2.1, ()), ())))
      (some ((y1.2.2.1, ()), ())))
    (none)
def r_digits_s2 (x : (List UInt8) × Bool × Int × Unit) : Option (Ex × ((List UInt8) × Bool × Int × Unit)) :=
  let s0 := x.1
  let t2 := x.2.1
  let i3 := x.2.2.1
  cond (decide (i3 < (s0.length : Int)))
    (grd (decide (0 ≤ i3) && decide (i3 < s0.length)) (
      cond (decide (((s0.getD i3.toNat 0).toNat : Int) < (48 : Int)))
        (some (Ex.ret, (s0, false, i3, ())))
        (grd (decide (0 ≤ i3) && decide (i3 < s0.length)) (
          cond (decide (((s0.getD i3.toNat 0).toNat : Int) > (57 : Int)))
            (some (Ex.ret, (s0, false, i3, ())))
            (some (Ex.normal, (s0, t2, IntKind.i64.wrap (i3 + (1 : Int)), ())))))))
    (some (Ex.exit 0, (s0, t2, i3, ())))
def r_digits (s0 : List UInt8) : Option ((Bool × Unit) × Unit) :=
  (loopO r_digits_s2 (s0, false, 0, ())).bind fun y1 =>
  cond (Ex.same y1.1 (Ex.exit 0))
    (some ((!(y1.2.1 == ([] : List UInt8)), ()), ()))
    (cond (Ex.same y1.1 Ex.ret)
      (some ((y1.2.2.1, ()), ()))
      (none))
def r_trim_s1 (x : (List UInt8) × Unit) : Option (Ex × ((List UInt8) × Unit)) :=
  let s0 := x.1
  cond (decide ((s0.length : Int) > (1 : Int)))
    (grd (decide (0 ≤ (0 : Int)) && decide ((0 : Int) < s0.length)) (
      cond (((s0.getD (0 : Int).toNat 0).toNat : Int) == (48 : Int))
        (grd (decide (0 ≤ (1 : Int)) && decide ((1 : Int) ≤ s0.length)) (some (Ex.normal, (s0.drop (1 : Int).toNat, ()))))
        (some (Ex.exit 0, (s0, ())))))
    (some (Ex.exit 0, (s0, ())))
def r_trim (s0 : List UInt8) : Option (((List UInt8) × Unit) × Unit) :=
  (loopO r_trim_s1 (s0, ())).bind fun y1 =>
  cond (Ex.same y1.1 (Ex.exit 0))
    (some ((y1.2.1, ()), ()))
    (none)
def r_cmpMag (a0 : List UInt8) (b1 : List UInt8) : Option ((Int × Unit) × Unit) :=
  cond (decide ((a0.length : Int) < (b1.length : Int)))
    (some ((-1, ()), ()))
    (cond ((a0.length : Int) == (b1.length : Int))
      (cond (strLt a0 b1)
        (some ((-1, ()), ()))
        (cond (a0 == b1)
          (some ((0, ()), ()))
          (some ((1, ()), ()))))
      (cond (a0 == b1)
        (some ((0, ()), ()))
        (some ((1, ()), ()))))
def r_subMag_s4 (x : (List UInt8) × (List UInt8) × (List Int) × Int × Int × Unit) : Option (Ex × ((List UInt8) × (List UInt8) × (List Int) × Int × Int × Unit)) :=
  let a0 := x.1
  let b1 := x.2.1
  let out5 := x.2.2.1
  let borrow6 := x.2.2.2.1
  let i7 := x.2.2.2.2.1
  cond (decide (i7 < (a0.length : Int)))
    (grd (decide (0 ≤ IntKind.i64.wrap ((IntKind.i64.wrap ((a0.length : Int) - (1 : Int))) - i7)) && decide (IntKind.i64.wrap ((IntKind.i64.wrap ((a0.length : Int) - (1 : Int))) - i7) < a0.length)) (
      cond (decide (i7 < (b1.length : Int)))
        (grd (decide (0 ≤ IntKind.i64.wrap ((IntKind.i64.wrap ((b1.length : Int) - (1 : Int))) - i7)) && decide (IntKind.i64.wrap ((IntKind.i64.wrap ((b1.length : Int) - (1 : Int))) - i7) < b1.length)) (
          cond (decide ((IntKind.i64.wrap ((IntKind.i64.wrap ((IntKind.i64.wrap (IntKind.u8.wrap (((a0.getD (IntKind.i64.wrap ((IntKind.i64.wrap ((a0.length : Int) - (1 : Int))) - i7)).toNat 0).toNat : Int) - (48 : Int)))) - borrow6)) - (IntKind.i64.wrap (IntKind.u8.wrap (((b1.getD (IntKind.i64.wrap ((IntKind.i64.wrap ((b1.length : Int) - (1 : Int))) - i7)).toNat 0).toNat : Int) - (48 : Int)))))) < (0 : Int)))
            (grd (decide (0 ≤ IntKind.i64.wrap ((IntKind.i64.wrap ((a0.length : Int) - (1 : Int))) - i7)) && decide (IntKind.i64.wrap ((IntKind.i64.wrap ((a0.length : Int) - (1 : Int))) - i7) < out5.length)) (grd (decide ((IntKind.i64.wrap ((IntKind.i64.wrap ((a0.length : Int) - (1 : Int))) - i7)).toNat < out5.length)) (some (Ex.normal, (a0, b1, out5.set ((IntKind.i64.wrap ((IntKind.i64.wrap ((a0.length : Int) - (1 : Int))) - i7)).toNat) (IntKind.u8.wrap (IntKind.i64.wrap ((48 : Int) + (IntKind.i64.wrap ((IntKind.i64.wrap ((IntKind.i64.wrap ((IntKind.i64.wrap (IntKind.u8.wrap (((a0.getD (IntKind.i64.wrap ((IntKind.i64.wrap ((a0.length : Int) - (1 : Int))) - i7)).toNat 0).toNat : Int) - (48 : Int)))) - borrow6)) - (IntKind.i64.wrap (IntKind.u8.wrap (((b1.getD (IntKind.i64.wrap ((IntKind.i64.wrap ((b1.length : Int) - (1 : Int))) - i7)).toNat 0).toNat : Int) - (48 : Int)))))) + (10 : Int)))))), 1, IntKind.i64.wrap (i7 + (1 : Int)), ())))))
            (grd (decide (0 ≤ IntKind.i64.wrap ((IntKind.i64.wrap ((a0.length : Int) - (1 : Int))) - i7)) && decide (IntKind.i64.wrap ((IntKind.i64.wrap ((a0.length : Int) - (1 : Int))) - i7) < out5.length)) (grd (decide ((IntKind.i64.wrap ((IntKind.i64.wrap ((a0.length : Int) - (1 : Int))) - i7)).toNat < out5.length)) (some (Ex.normal, (a0, b1, out5.set ((IntKind.i64.wrap ((IntKind.i64.wrap ((a0.length : Int) - (1 : Int))) - i7)).toNat) (IntKind.u8.wrap (IntKind.i64.wrap ((48 : Int) + (IntKind.i64.wrap ((IntKind.i64.wrap ((IntKind.i64.wrap (IntKind.u8.wrap (((a0.getD (IntKind.i64.wrap ((IntKind.i64.wrap ((a0.length : Int) - (1 : Int))) - i7)).toNat 0).toNat : Int) - (48 : Int)))) - borrow6)) - (IntKind.i64.wrap (IntKind.u8.wrap (((b1.getD (IntKind.i64.wrap ((IntKind.i64.wrap ((b1.length : Int) - (1 : Int))) - i7)).toNat 0).toNat : Int) - (48 : Int))))))))), 0, IntKind.i64.wrap (i7 + (1 : Int)), ())))))))
        (cond (decide ((IntKind.i64.wrap ((IntKind.i64.wrap (IntKind.u8.wrap (((a0.getD (IntKind.i64.wrap ((IntKind.i64.wrap ((a0.length : Int) - (1 : Int))) - i7)).toNat 0).toNat : Int) - (48 : Int)))) - borrow6)) < (0 : Int)))
          (grd (decide (0 ≤ IntKind.i64.wrap ((IntKind.i64.wrap ((a0.length : Int) - (1 : Int))) - i7)) && decide (IntKind.i64.wrap ((IntKind.i64.wrap ((a0.length : Int) - (1 : Int))) - i7) < out5.length)) (grd (decide ((IntKind.i64.wrap ((IntKind.i64.wrap ((a0.length : Int) - (1 : Int))) - i7)).toNat < out5.length)) (some (Ex.normal, (a0, b1, out5.set ((IntKind.i64.wrap ((IntKind.i64.wrap ((a0.length : Int) - (1 : Int))) - i7)).toNat) (IntKind.u8.wrap (IntKind.i64.wrap ((48 : Int) + (IntKind.i64.wrap ((IntKind.i64.wrap ((IntKind.i64.wrap (IntKind.u8.wrap (((a0.getD (IntKind.i64.wrap ((IntKind.i64.wrap ((a0.length : Int) - (1 : Int))) - i7)).toNat 0).toNat : Int) - (48 : Int)))) - borrow6)) + (10 : Int)))))), 1, IntKind.i64.wrap (i7 + (1 : Int)), ())))))
          (grd (decide (0 ≤ IntKind.i64.wrap ((IntKind.i64.wrap ((a0.length : Int) - (1 : Int))) - i7)) && decide (IntKind.i64.wrap ((IntKind.i64.wrap ((a0.length : Int) - (1 : Int))) - i7) < out5.length)) (grd (decide ((IntKind.i64.wrap ((IntKind.i64.wrap ((a0.length : Int) - (1 : Int))) - i7)).toNat < out5.length)) (some (Ex.normal, (a0, b1, out5.set ((IntKind.i64.wrap ((IntKind.i64.wrap ((a0.length : Int) - (1 : Int))) - i7)).toNat) (IntKind.u8.wrap (IntKind.i64.wrap ((48 : Int) + (IntKind.i64.wrap ((IntKind.i64.wrap (IntKind.u8.wrap (((a0.getD (IntKind.i64.wrap ((IntKind.i64.wrap ((a0.length : Int) - (1 : Int))) - i7)).toNat 0).toNat : Int) - (48 : Int)))) - borrow6))))), 0, IntKind.i64.wrap (i7 + (1 : Int)), ()))))))))
    (some (Ex.exit 0, (a0, b1, out5, borrow6, i7, ())))
def r_subMag (a0 : List UInt8) (b1 : List UInt8) : Option (((List UInt8) × Unit) × Unit) :=
  grd (decide (0 ≤ (a0.length : Int)) && decide ((a0.length : Int) ≤ (a0.length : Int)) && decide ((a0.length : Int) ≤ maxN)) (
    (loopO r_subMag_s4 (a0, b1, List.replicate (a0.length : Int).toNat (0 : Int), 0, 0, ())).bind fun y1 =>
    cond (Ex.same y1.1 (Ex.exit 0))
      ((r_trim (y1.2.2.2.1.map fun n => UInt8.ofNat n.toNat)).bind fun r2 =>
      some ((r2.1.1, ()), ()))
      (none))
def r_divMag_s8 (x : (List UInt8) × (List UInt8) × (List Int) × (List UInt8) × Int × Int × Unit) : Option (Ex × ((List UInt8) × (List UInt8) × (List Int) × (List UInt8) × Int × Int × Unit)) :=
  let a0 := x.1
  let b1 := x.2.1
  let q6 := x.2.2.1
  let r7 := x.2.2.2.1
  let i8 := x.2.2.2.2.1
  let d9 := x.2.2.2.2.2.1
  (r_cmpMag r7 b1).bind fun r1 =>
  cond (decide (r1.1.1 ≥ (0 : Int)))
    ((r_subMag r7 b1).bind fun r2 =>
    some (Ex.normal, (a0, b1, q6, r2.1.1, i8, IntKind.u8.wrap (d9 + (1 : Int)), ())))
    (some (Ex.exit 2, (a0, b1, q6, r7, i8, d9, ())))
def r_divMag_s4 (x : (List UInt8) × (List UInt8) × (List Int) × (List UInt8) × Int × Unit) : Option (Ex × ((List UInt8) × (List UInt8) × (List Int) × (List UInt8) × Int × Unit)) :=
  let a0 := x.1
  let b1 := x.2.1
  let q6 := x.2.2.1
  let r7 := x.2.2.2.1
  let i8 := x.2.2.2.2.1
  cond (decide (i8 < (a0.length : Int)))
    (grd (decide (0 ≤ i8) && decide (i8 ≤ IntKind.i64.wrap (i8 + (1 : Int))) && decide (IntKind.i64.wrap (i8 + (1 : Int)) ≤ a0.length)) (
      grd (decide (r7.length + ((a0.take (IntKind.i64.wrap (i8 + (1 : Int))).toNat).drop i8.toNat).length ≤ maxS)) (
        (r_trim (r7 ++ ((a0.take (IntKind.i64.wrap (i8 + (1 : Int))).toNat).drop i8.toNat))).bind fun r1 =>
        (loopO r_divMag_s8 (a0, b1, q6, r1.1.1, i8, 48, ())).bind fun y2 =>
        cond (Ex.same y2.1 (Ex.exit 2))
          (grd (decide (0 ≤ y2.2.2.2.2.2.1) && decide (y2.2.2.2.2.2.1 < y2.2.2.2.1.length)) (grd (decide (y2.2.2.2.2.2.1.toNat < y2.2.2.2.1.length)) (some (Ex.normal, (y2.2.1, y2.2.2.1, y2.2.2.2.1.set y2.2.2.2.2.2.1.toNat y2.2.2.2.2.2.2.1, y2.2.2.2.2.1, IntKind.i64.wrap (y2.2.2.2.2.2.1 + (1 : Int)), ())))))
          (none))))
    (some (Ex.exit 0, (a0, b1, q6, r7, i8, ())))
def r_divMag (a0 : List UInt8) (b1 : List UInt8) : Option (((List UInt8) × (List UInt8) × Unit) × Unit) :=
  grd (decide (0 ≤ (a0.length : Int)) && decide ((a0.length : Int) ≤ (a0.length : Int)) && decide ((a0.length : Int) ≤ maxN)) (
    (loopO r_divMag_s4 (a0, b1, List.replicate (a0.length : Int).toNat (0 : Int), ([48] : List UInt8), 0, ())).bind fun y1 =>
    cond (Ex.same y1.1 (Ex.exit 0))
      ((r_trim (y1.2.2.2.1.map fun n => UInt8.ofNat n.toNat)).bind fun r2 =>
      some ((r2.1.1, y1.2.2.2.2.1, ()), ()))
      (none))
def r_gcdMag_s1 (x : (List UInt8) × (List UInt8) × Unit) : Option (Ex × ((List UInt8) × (List UInt8) × Unit)) :=
  let a0 := x.1
  let b1 := x.2.1
  cond (!(b1 == ([48] : List UInt8)))
    ((r_divMag a0 b1).bind fun r1 =>
    some (Ex.normal, (b1, r1.1.2.1, ())))
    (some (Ex.exit 0, (a0, b1, ())))
def r_gcdMag (a0 : List UInt8) (b1 : List UInt8) : Option (((List UInt8) × Unit) × Unit) :=
  (loopO r_gcdMag_s1 (a0, b1, ())).bind fun y1 =>
  cond (Ex.same y1.1 (Ex.exit 0))
    (some ((y1.2.1, ()), ()))
    (none)
def r_reduce (neg0 : Bool) (num1 : List UInt8) (den2 : List UInt8) : Option ((Ratio × Unit) × Unit) :=
  (r_gcdMag num1 den2).bind fun r1 =>
  (r_divMag num1 r1.1.1).bind fun r2 =>
  (r_divMag den2 r1.1.1).bind fun r3 =>
  cond (neg0)
    (some (((!(r2.1.1 == ([48] : List UInt8)), r2.1.1, r3.1.1), ()), ()))
    (some (((false, r2.1.1, r3.1.1), ()), ()))
def r_ratio_text (x0 : Ratio) : Option (((List UInt8) × Unit) × Unit) :=
  cond (x0.1)
    (grd (decide (([45] : List UInt8).length + x0.2.1.length ≤ maxS)) (
      cond (!(x0.2.2 == ([49] : List UInt8)))
        (grd (decide (([47] : List UInt8).length + x0.2.2.length ≤ maxS)) (grd (decide ((([45] : List UInt8) ++ x0.2.1).length + (([47] : List UInt8) ++ x0.2.2).length ≤ maxS)) (some (((([45] : List UInt8) ++ x0.2.1) ++ (([47] : List UInt8) ++ x0.2.2), ()), ()))))
        (some ((([45] : List UInt8) ++ x0.2.1, ()), ()))))
    (cond (!(x0.2.2 == ([49] : List UInt8)))
      (grd (decide (([47] : List UInt8).length + x0.2.2.length ≤ maxS)) (grd (decide (x0.2.1.length + (([47] : List UInt8) ++ x0.2.2).length ≤ maxS)) (some ((x0.2.1 ++ (([47] : List UInt8) ++ x0.2.2), ()), ()))))
      (some ((x0.2.1, ()), ())))
def r_parse_s6 (x : (List UInt8) × Ratio × Ratio × (List UInt8) × Int × Unit) : Option (Ex × ((List UInt8) × Ratio × Ratio × (List UInt8) × Int × Unit)) :=
  let a0 := x.1
  let t2 := x.2.1
  let x4 := x.2.2.1
  let s5 := x.2.2.2.1
  let i6 := x.2.2.2.2.1
  cond (decide (i6 < (s5.length : Int)))
    (grd (decide (0 ≤ i6) && decide (i6 < s5.length)) (
      cond (((s5.getD i6.toNat 0).toNat : Int) == (47 : Int))
        (grd (decide (0 ≤ IntKind.i64.wrap (i6 + (1 : Int))) && decide (IntKind.i64.wrap (i6 + (1 : Int)) ≤ s5.length)) (grd (decide (0 ≤ i6) && decide (i6 ≤ s5.length)) (some (Ex.exit 0, (a0, (t2.1, t2.2.1, t2.2.2), (x4.1, x4.2.1, s5.drop (IntKind.i64.wrap (i6 + (1 : Int))).toNat), s5.take i6.toNat, i6, ())))))
        (some (Ex.normal, (a0, (t2.1, t2.2.1, t2.2.2), (x4.1, x4.2.1, x4.2.2), s5, IntKind.i64.wrap (i6 + (1 : Int)), ())))))
    (some (Ex.exit 0, (a0, (t2.1, t2.2.1, t2.2.2), (x4.1, x4.2.1, x4.2.2), s5, i6, ())))
def r_parse (a0 : List UInt8) : Option ((Ratio × Bool × Unit) × Unit) :=
  cond (!(a0 == ([] : List UInt8)))
    (grd (decide (0 ≤ (0 : Int)) && decide ((0 : Int) < a0.length)) (
      cond (((a0.getD (0 : Int).toNat 0).toNat : Int) == (45 : Int))
        (grd (decide (0 ≤ (1 : Int)) && decide ((1 : Int) ≤ a0.length)) (
          (loopO r_parse_s6 (a0, (false, ([] : List UInt8), ([] : List UInt8)), (true, ([] : List UInt8), ([49] : List UInt8)), a0.drop (1 : Int).toNat, 0, ())).bind fun y1 =>
          cond (Ex.same y1.1 (Ex.exit 0))
            ((r_digits y1.2.2.2.2.1).bind fun r2 =>
            cond (!r2.1.1)
              (some (((false, ([] : List UInt8), ([] : List UInt8)), false, ()), ()))
              ((r_digits y1.2.2.2.1.2.2).bind fun r3 =>
              cond (!r3.1.1)
                (some (((false, ([] : List UInt8), ([] : List UInt8)), false, ()), ()))
                (cond (y1.2.2.2.1.2.2 == ([48] : List UInt8))
                  (some (((false, ([] : List UInt8), ([] : List UInt8)), false, ()), ()))
                  ((r_trim y1.2.2.2.2.1).bind fun r4 =>
                  cond (!(r4.1.1 == y1.2.2.2.2.1))
                    (some (((false, ([] : List UInt8), ([] : List UInt8)), false, ()), ()))
                    ((r_trim y1.2.2.2.1.2.2).bind fun r5 =>
                    cond (!(r5.1.1 == y1.2.2.2.1.2.2))
                      (some (((false, ([] : List UInt8), ([] : List UInt8)), false, ()), ()))
                      ((r_reduce y1.2.2.2.1.1 y1.2.2.2.2.1 y1.2.2.2.1.2.2).bind fun r6 =>
                      (r_ratio_text (r6.1.1.1, r6.1.1.2.1, r6.1.1.2.2)).bind fun r7 =>
                      cond (!(r7.1.1 == y1.2.1))
                        (some (((false, ([] : List UInt8), ([] : List UInt8)), false, ()), ()))
                        (some (((y1.2.2.2.1.1, y1.2.2.2.2.1, y1.2.2.2.1.2.2), true, ()), ()))))))))
            (none)))
        ((loopO r_parse_s6 (a0, (false, ([] : List UInt8), ([] : List UInt8)), (false, ([] : List UInt8), ([49] : List UInt8)), a0, 0, ())).bind fun y8 =>
        cond (Ex.same y8.1 (Ex.exit 0))
          ((r_digits y8.2.2.2.2.1).bind fun r9 =>
          cond (!r9.1.1)
            (some (((false, ([] : List UInt8), ([] : List UInt8)), false, ()), ()))
            ((r_digits y8.2.2.2.1.2.2).bind fun r10 =>
            cond (!r10.1.1)
              (some (((false, ([] : List UInt8), ([] : List UInt8)), false, ()), ()))
              (cond (y8.2.2.2.1.2.2 == ([48] : List UInt8))
                (some (((false, ([] : List UInt8), ([] : List UInt8)), false, ()), ()))
                ((r_trim y8.2.2.2.2.1).bind fun r11 =>
                cond (!(r11.1.1 == y8.2.2.2.2.1))
                  (some (((false, ([] : List UInt8), ([] : List UInt8)), false, ()), ()))
                  ((r_trim y8.2.2.2.1.2.2).bind fun r12 =>
                  cond (!(r12.1.1 == y8.2.2.2.1.2.2))
                    (some (((false, ([] : List UInt8), ([] : List UInt8)), false, ()), ()))
                    ((r_reduce y8.2.2.2.1.1 y8.2.2.2.2.1 y8.2.2.2.1.2.2).bind fun r13 =>
                    (r_ratio_text (r13.1.1.1, r13.1.1.2.1, r13.1.1.2.2)).bind fun r14 =>
                    cond (!(r14.1.1 == y8.2.1))
                      (some (((false, ([] : List UInt8), ([] : List UInt8)), false, ()), ()))
                      (some (((y8.2.2.2.1.1, y8.2.2.2.2.1, y8.2.2.2.1.2.2), true, ()), ()))))))))
          (none))))
    ((loopO r_parse_s6 (a0, (false, ([] : List UInt8), ([] : List UInt8)), (false, ([] : List UInt8), ([49] : List UInt8)), a0, 0, ())).bind fun y15 =>
    cond (Ex.same y15.1 (Ex.exit 0))
      ((r_digits y15.2.2.2.2.1).bind fun r16 =>
      cond (!r16.1.1)
        (some (((false, ([] : List UInt8), ([] : List UInt8)), false, ()), ()))
        ((r_digits y15.2.2.2.1.2.2).bind fun r17 =>
        cond (!r17.1.1)
          (some (((false, ([] : List UInt8), ([] : List UInt8)), false, ()), ()))
          (cond (y15.2.2.2.1.2.2 == ([48] : List UInt8))
            (some (((false, ([] : List UInt8), ([] : List UInt8)), false, ()), ()))
            ((r_trim y15.2.2.2.2.1).bind fun r18 =>
            cond (!(r18.1.1 == y15.2.2.2.2.1))
              (some (((false, ([] : List UInt8), ([] : List UInt8)), false, ()), ()))
              ((r_trim y15.2.2.2.1.2.2).bind fun r19 =>
              cond (!(r19.1.1 == y15.2.2.2.1.2.2))
                (some (((false, ([] : List UInt8), ([] : List UInt8)), false, ()), ()))
                ((r_reduce y15.2.2.2.1.1 y15.2.2.2.2.1 y15.2.2.2.1.2.2).bind fun r20 =>
                (r_ratio_text (r20.1.1.1, r20.1.1.2.1, r20.1.1.2.2)).bind fun r21 =>
                cond (!(r21.1.1 == y15.2.1))
                  (some (((false, ([] : List UInt8), ([] : List UInt8)), false, ()), ()))
                  (some (((y15.2.2.2.1.1, y15.2.2.2.2.1, y15.2.2.2.1.2.2), true, ()), ()))))))))
      (none))
def r_mulMag_s6 (x : (List UInt8) × (List UInt8) × (List Int) × Int × Int × Unit) : Option (Ex × ((List UInt8) × (List UInt8) × (List Int) × Int × Int × Unit)) :=
  let a0 := x.1
  let b1 := x.2.1
  let out5 := x.2.2.1
  let i6 := x.2.2.2.1
  let j7 := x.2.2.2.2.1
  cond (decide (j7 < (b1.length : Int)))
    (grd (decide (0 ≤ IntKind.i64.wrap ((IntKind.i64.wrap (i6 + j7)) + (1 : Int))) && decide (IntKind.i64.wrap ((IntKind.i64.wrap (i6 + j7)) + (1 : Int)) < out5.length)) (grd (decide ((IntKind.i64.wrap ((IntKind.i64.wrap (i6 + j7)) + (1 : Int))).toNat < out5.length)) (grd (decide (0 ≤ i6) && decide (i6 < a0.length)) (grd (decide (0 ≤ j7) && decide (j7 < b1.length)) (grd (decide (0 ≤ IntKind.i64.wrap ((IntKind.i64.wrap (i6 + j7)) + (1 : Int))) && decide (IntKind.i64.wrap ((IntKind.i64.wrap (i6 + j7)) + (1 : Int)) < out5.length)) (grd (decide ((IntKind.i64.wrap ((IntKind.i64.wrap (i6 + j7)) + (1 : Int))).toNat < out5.length)) (some (Ex.normal, (a0, b1, out5.set ((IntKind.i64.wrap ((IntKind.i64.wrap (i6 + j7)) + (1 : Int))).toNat) (IntKind.i64.wrap ((out5.getD ((IntKind.i64.wrap ((IntKind.i64.wrap (i6 + j7)) + (1 : Int))).toNat) (0 : Int)) + (IntKind.i64.wrap ((IntKind.i64.wrap (IntKind.u8.wrap (((a0.getD i6.toNat 0).toNat : Int) - (48 : Int)))) * (IntKind.i64.wrap (IntKind.u8.wrap (((b1.getD j7.toNat 0).toNat : Int) - (48 : Int)))))))), i6, IntKind.i64.wrap (j7 + (1 : Int)), ())))))))))
    (some (Ex.exit 2, (a0, b1, out5, i6, j7, ())))
def r_mulMag_s3 (x : (List UInt8) × (List UInt8) × (List Int) × Int × Unit) : Option (Ex × ((List UInt8) × (List UInt8) × (List Int) × Int × Unit)) :=
  let a0 := x.1
  let b1 := x.2.1
  let out5 := x.2.2.1
  let i6 := x.2.2.2.1
  cond (decide (i6 < (a0.length : Int)))
    ((loopO r_mulMag_s6 (a0, b1, out5, i6, 0, ())).bind fun y1 =>
    cond (Ex.same y1.1 (Ex.exit 2))
      (some (Ex.normal, (y1.2.1, y1.2.2.1, y1.2.2.2.1, IntKind.i64.wrap (y1.2.2.2.2.1 + (1 : Int)), ())))
      (none))
    (some (Ex.exit 0, (a0, b1, out5, i6, ())))
def r_mulMag_s12 (x : (List Int) × (List Int) × Int × Int × Unit) : Option (Ex × ((List Int) × (List Int) × Int × Int × Unit)) :=
  let out5 := x.1
  let s8 := x.2.1
  let carry9 := x.2.2.1
  let k10 := x.2.2.2.1
  cond (decide (k10 ≥ (0 : Int)))
    (grd (decide (0 ≤ k10) && decide (k10 < out5.length)) (grd (decide (k10.toNat < out5.length)) (grd ((10 : Int) != 0) (grd (decide (0 ≤ k10) && decide (k10 < s8.length)) (grd (decide (k10.toNat < s8.length)) (grd ((10 : Int) != 0) (some (Ex.normal, (out5, s8.set k10.toNat (IntKind.u8.wrap (IntKind.i64.wrap ((48 : Int) + ((IntKind.i64.wrap ((out5.getD k10.toNat (0 : Int)) + carry9)).tmod 10)))), IntKind.i64.wrap ((IntKind.i64.wrap ((out5.getD k10.toNat (0 : Int)) + carry9)).tdiv 10), IntKind.i64.wrap (k10 - (1 : Int)), ())))))))))
    (some (Ex.exit 4, (out5, s8, carry9, k10, ())))
def r_mulMag (a0 : List UInt8) (b1 : List UInt8) : Option (((List UInt8) × Unit) × Unit) :=
  grd (decide (0 ≤ IntKind.i64.wrap ((a0.length : Int) + (b1.length : Int))) && decide (IntKind.i64.wrap ((a0.length : Int) + (b1.length : Int)) ≤ IntKind.i64.wrap ((a0.length : Int) + (b1.length : Int))) && decide (IntKind.i64.wrap ((a0.length : Int) + (b1.length : Int)) ≤ maxN)) (
    (loopO r_mulMag_s3 (a0, b1, List.replicate (IntKind.i64.wrap ((a0.length : Int) + (b1.length : Int))).toNat (0 : Int), 0, ())).bind fun y1 =>
    cond (Ex.same y1.1 (Ex.exit 0))
      (grd (decide (0 ≤ (y1.2.2.2.1.length : Int)) && decide ((y1.2.2.2.1.length : Int) ≤ (y1.2.2.2.1.length : Int)) && decide ((y1.2.2.2.1.length : Int) ≤ maxN)) (
        (loopO r_mulMag_s12 (y1.2.2.2.1, List.replicate (y1.2.2.2.1.length : Int).toNat (0 : Int), 0, IntKind.i64.wrap ((y1.2.2.2.1.length : Int) - (1 : Int)), ())).bind fun y2 =>
        cond (Ex.same y2.1 (Ex.exit 4))
          ((r_trim (y2.2.2.1.map fun n => UInt8.ofNat n.toNat)).bind fun r3 =>
          some ((r3.1.1, ()), ()))
          (none)))
      (none))
def r_Mul (a0 : List UInt8) (b1 : List UInt8) : Option (((List UInt8) × Unit) × Unit) :=
  (r_parse a0).bind fun r1 =>
  (r_parse b1).bind fun r2 =>
  cond (!r1.1.2.1)
    (some ((([] : List UInt8), ()), ()))
    (cond (!r2.1.2.1)
      (some ((([] : List UInt8), ()), ()))
      ((r_mulMag r1.1.1.2.1 r2.1.1.2.1).bind fun r3 =>
      (r_mulMag r1.1.1.2.2 r2.1.1.2.2).bind fun r4 =>
      (r_reduce (!(r1.1.1.1 == r2.1.1.1)) r3.1.1 r4.1.1).bind fun r5 =>
      (r_ratio_text (r5.1.1.1, r5.1.1.2.1, r5.1.1.2.2)).bind fun r6 =>
      some ((r6.1.1, ()), ())))
def g_Choices_Integer (c0 : Choices) : Option (((List UInt8) × Unit) × (Choices × Unit)) :=
  (g_Choices_Next (c0.1, c0.2) 8).bind fun r1 =>
  cond (r1.1.1 == (6 : Int))
    ((g_Choices_Next (r1.2.1.1, r1.2.1.2) 2001).bind fun r2 =>
    (r_FromInt (IntKind.i64.wrap (r2.1.1 - (1000 : Int)))).bind fun r3 =>
    some ((r3.1.1, ()), (r2.2.1.1, r2.2.1.2), ()))
    (cond (r1.1.1 == (7 : Int))
      ((g_Choices_Next (r1.2.1.1, r1.2.1.2) 1099511627776).bind fun r4 =>
      (r_FromInt (IntKind.i64.wrap (r4.1.1 - (549755813888 : Int)))).bind fun r5 =>
      (g_Choices_Next (r4.2.1.1, r4.2.1.2) 1099511627776).bind fun r6 =>
      (r_FromInt r6.1.1).bind fun r7 =>
      (r_Mul r5.1.1 r7.1.1).bind fun r8 =>
      some ((r8.1.1, ()), (r6.2.1.1, r6.2.1.2), ()))
      ((g_Choices_Next (r1.2.1.1, r1.2.1.2) 9).bind fun r9 =>
      (r_FromInt (IntKind.i64.wrap (r9.1.1 - (4 : Int)))).bind fun r10 =>
      some ((r10.1.1, ()), (r9.2.1.1, r9.2.1.2), ())))
def r_IsInt (a0 : List UInt8) : Option ((Bool × Unit) × Unit) :=
  (r_parse a0).bind fun r1 =>
  cond (r1.1.2.1)
    (some ((r1.1.1.2.2 == ([49] : List UInt8), ()), ()))
    (some ((false, ()), ()))
def r_Valid (a0 : List UInt8) : Option ((Bool × Unit) × Unit) :=
  (r_parse a0).bind fun r1 =>
  some ((r1.1.2.1, ()), ())
def r_Neg (a0 : List UInt8) : Option (((List UInt8) × Unit) × Unit) :=
  (r_parse a0).bind fun r1 =>
  cond (!r1.1.2.1)
    (some ((([] : List UInt8), ()), ()))
    (cond (!r1.1.1.1)
      ((r_ratio_text (!(r1.1.1.2.1 == ([48] : List UInt8)), r1.1.1.2.1, r1.1.1.2.2)).bind fun r2 =>
      some ((r2.1.1, ()), ()))
      ((r_ratio_text (false, r1.1.1.2.1, r1.1.1.2.2)).bind fun r3 =>
      some ((r3.1.1, ()), ())))
def r_addMag_s5 (x : (List UInt8) × (List UInt8) × Int × (List Int) × Int × Int × Unit) : Option (Ex × ((List UInt8) × (List UInt8) × Int × (List Int) × Int × Int × Unit)) :=
  let a0 := x.1
  let b1 := x.2.1
  let n5 := x.2.2.1
  let out6 := x.2.2.2.1
  let carry7 := x.2.2.2.2.1
  let i8 := x.2.2.2.2.2.1
  cond (decide (i8 < n5))
    (cond (decide (i8 < (a0.length : Int)))
      (grd (decide (0 ≤ IntKind.i64.wrap ((IntKind.i64.wrap ((a0.length : Int) - (1 : Int))) - i8)) && decide (IntKind.i64.wrap ((IntKind.i64.wrap ((a0.length : Int) - (1 : Int))) - i8) < a0.length)) (
        cond (decide (i8 < (b1.length : Int)))
          (grd (decide (0 ≤ IntKind.i64.wrap ((IntKind.i64.wrap ((b1.length : Int) - (1 : Int))) - i8)) && decide (IntKind.i64.wrap ((IntKind.i64.wrap ((b1.length : Int) - (1 : Int))) - i8) < b1.length)) (grd ((10 : Int) != 0) (grd (decide (0 ≤ IntKind.i64.wrap ((IntKind.i64.wrap (n5 - (1 : Int))) - i8)) && decide (IntKind.i64.wrap ((IntKind.i64.wrap (n5 - (1 : Int))) - i8) < out6.length)) (grd (decide ((IntKind.i64.wrap ((IntKind.i64.wrap (n5 - (1 : Int))) - i8)).toNat < out6.length)) (grd ((10 : Int) != 0) (some (Ex.normal, (a0, b1, n5, out6.set ((IntKind.i64.wrap ((IntKind.i64.wrap (n5 - (1 : Int))) - i8)).toNat) (IntKind.u8.wrap (IntKind.i64.wrap ((48 : Int) + ((IntKind.i64.wrap ((IntKind.i64.wrap (carry7 + (IntKind.i64.wrap (IntKind.u8.wrap (((a0.getD (IntKind.i64.wrap ((IntKind.i64.wrap ((a0.length : Int) - (1 : Int))) - i8)).toNat 0).toNat : Int) - (48 : Int)))))) + (IntKind.i64.wrap (IntKind.u8.wrap (((b1.getD (IntKind.i64.wrap ((IntKind.i64.wrap ((b1.length : Int) - (1 : Int))) - i8)).toNat 0).toNat : Int) - (48 : Int)))))).tmod 10)))), IntKind.i64.wrap ((IntKind.i64.wrap ((IntKind.i64.wrap (carry7 + (IntKind.i64.wrap (IntKind.u8.wrap (((a0.getD (IntKind.i64.wrap ((IntKind.i64.wrap ((a0.length : Int) - (1 : Int))) - i8)).toNat 0).toNat : Int) - (48 : Int)))))) + (IntKind.i64.wrap (IntKind.u8.wrap (((b1.getD (IntKind.i64.wrap ((IntKind.i64.wrap ((b1.length : Int) - (1 : Int))) - i8)).toNat 0).toNat : Int) - (48 : Int)))))).tdiv 10), IntKind.i64.wrap (i8 + (1 : Int)), ()))))))))
          (grd ((10 : Int) != 0) (grd (decide (0 ≤ IntKind.i64.wrap ((IntKind.i64.wrap (n5 - (1 : Int))) - i8)) && decide (IntKind.i64.wrap ((IntKind.i64.wrap (n5 - (1 : Int))) - i8) < out6.length)) (grd (decide ((IntKind.i64.wrap ((IntKind.i64.wrap (n5 - (1 : Int))) - i8)).toNat < out6.length)) (grd ((10 : Int) != 0) (some (Ex.normal, (a0, b1, n5, out6.set ((IntKind.i64.wrap ((IntKind.i64.wrap (n5 - (1 : Int))) - i8)).toNat) (IntKind.u8.wrap (IntKind.i64.wrap ((48 : Int) + ((IntKind.i64.wrap (carry7 + (IntKind.i64.wrap (IntKind.u8.wrap (((a0.getD (IntKind.i64.wrap ((IntKind.i64.wrap ((a0.length : Int) - (1 : Int))) - i8)).toNat 0).toNat : Int) - (48 : Int)))))).tmod 10)))), IntKind.i64.wrap ((IntKind.i64.wrap (carry7 + (IntKind.i64.wrap (IntKind.u8.wrap (((a0.getD (IntKind.i64.wrap ((IntKind.i64.wrap ((a0.length : Int) - (1 : Int))) - i8)).toNat 0).toNat : Int) - (48 : Int)))))).tdiv 10), IntKind.i64.wrap (i8 + (1 : Int)), ())))))))))
      (cond (decide (i8 < (b1.length : Int)))
        (grd (decide (0 ≤ IntKind.i64.wrap ((IntKind.i64.wrap ((b1.length : Int) - (1 : Int))) - i8)) && decide (IntKind.i64.wrap ((IntKind.i64.wrap ((b1.length : Int) - (1 : Int))) - i8) < b1.length)) (grd ((10 : Int) != 0) (grd (decide (0 ≤ IntKind.i64.wrap ((IntKind.i64.wrap (n5 - (1 : Int))) - i8)) && decide (IntKind.i64.wrap ((IntKind.i64.wrap (n5 - (1 : Int))) - i8) < out6.length)) (grd (decide ((IntKind.i64.wrap ((IntKind.i64.wrap (n5 - (1 : Int))) - i8)).toNat < out6.length)) (grd ((10 : Int) != 0) (some (Ex.normal, (a0, b1, n5, out6.set ((IntKind.i64.wrap ((IntKind.i64.wrap (n5 - (1 : Int))) - i8)).toNat) (IntKind.u8.wrap (IntKind.i64.wrap ((48 : Int) + ((IntKind.i64.wrap (carry7 + (IntKind.i64.wrap (IntKind.u8.wrap (((b1.getD (IntKind.i64.wrap ((IntKind.i64.wrap ((b1.length : Int) - (1 : Int))) - i8)).toNat 0).toNat : Int) - (48 : Int)))))).tmod 10)))), IntKind.i64.wrap ((IntKind.i64.wrap (carry7 + (IntKind.i64.wrap (IntKind.u8.wrap (((b1.getD (IntKind.i64.wrap ((IntKind.i64.wrap ((b1.length : Int) - (1 : Int))) - i8)).toNat 0).toNat : Int) - (48 : Int)))))).tdiv 10), IntKind.i64.wrap (i8 + (1 : Int)), ()))))))))
        (grd ((10 : Int) != 0) (grd (decide (0 ≤ IntKind.i64.wrap ((IntKind.i64.wrap (n5 - (1 : Int))) - i8)) && decide (IntKind.i64.wrap ((IntKind.i64.wrap (n5 - (1 : Int))) - i8) < out6.length)) (grd (decide ((IntKind.i64.wrap ((IntKind.i64.wrap (n5 - (1 : Int))) - i8)).toNat < out6.length)) (grd ((10 : Int) != 0) (some (Ex.normal, (a0, b1, n5, out6.set ((IntKind.i64.wrap ((IntKind.i64.wrap (n5 - (1 : Int))) - i8)).toNat) (IntKind.u8.wrap (IntKind.i64.wrap ((48 : Int) + (carry7.tmod 10)))), IntKind.i64.wrap (carry7.tdiv 10), IntKind.i64.wrap (i8 + (1 : Int)), ())))))))))
    (some (Ex.exit 0, (a0, b1, n5, out6, carry7, i8, ())))
def r_addMag (a0 : List UInt8) (b1 : List UInt8) : Option (((List UInt8) × Unit) × Unit) :=
  grd (decide (0 ≤ IntKind.i64.wrap ((maxA (a0.length : Int) (b1.length : Int)) + (1 : Int))) && decide (IntKind.i64.wrap ((maxA (a0.length : Int) (b1.length : Int)) + (1 : Int)) ≤ IntKind.i64.wrap ((maxA (a0.length : Int) (b1.length : Int)) + (1 : Int))) && decide (IntKind.i64.wrap ((maxA (a0.length : Int) (b1.length : Int)) + (1 : Int)) ≤ maxN)) (
    (loopO r_addMag_s5 (a0, b1, IntKind.i64.wrap ((maxA (a0.length : Int) (b1.length : Int)) + (1 : Int)), List.replicate (IntKind.i64.wrap ((maxA (a0.length : Int) (b1.length : Int)) + (1 : Int))).toNat (0 : Int), 0, 0, ())).bind fun y1 =>
    cond (Ex.same y1.1 (Ex.exit 0))
      ((r_trim (y1.2.2.2.2.1.map fun n => UInt8.ofNat n.toNat)).bind fun r2 =>
      some ((r2.1.1, ()), ()))
      (none))
def r_Add (a0 : List UInt8) (b1 : List UInt8) : Option (((List UInt8) × Unit) × Unit) :=
  (r_parse a0).bind fun r1 =>
  (r_parse b1).bind fun r2 =>
  cond (!r1.1.2.1)
    (some ((([] : List UInt8), ()), ()))
    (cond (!r2.1.2.1)
      (some ((([] : List UInt8), ()), ()))
      ((r_mulMag r1.1.1.2.1 r2.1.1.2.2).bind fun r3 =>
      (r_mulMag r2.1.1.2.1 r1.1.1.2.2).bind fun r4 =>
      (r_mulMag r1.1.1.2.2 r2.1.1.2.2).bind fun r5 =>
      cond (r1.1.1.1 == r2.1.1.1)
        ((r_addMag r3.1.1 r4.1.1).bind fun r6 =>
        (r_reduce r1.1.1.1 r6.1.1 r5.1.1).bind fun r7 =>
        (r_ratio_text (r7.1.1.1, r7.1.1.2.1, r7.1.1.2.2)).bind fun r8 =>
        some ((r8.1.1, ()), ()))
        ((r_cmpMag r3.1.1 r4.1.1).bind fun r9 =>
        cond (decide (r9.1.1 ≥ (0 : Int)))
          ((r_subMag r3.1.1 r4.1.1).bind fun r10 =>
          (r_reduce r1.1.1.1 r10.1.1 r5.1.1).bind fun r11 =>
          (r_ratio_text (r11.1.1.1, r11.1.1.2.1, r11.1.1.2.2)).bind fun r12 =>
          some ((r12.1.1, ()), ()))
          ((r_subMag r4.1.1 r3.1.1).bind fun r13 =>
          (r_reduce r2.1.1.1 r13.1.1 r5.1.1).bind fun r14 =>
          (r_ratio_text (r14.1.1.1, r14.1.1.2.1, r14.1.1.2.2)).bind fun r15 =>
          some ((r15.1.1, ()), ())))))
def r_Sub (a0 : List UInt8) (b1 : List UInt8) : Option (((List UInt8) × Unit) × Unit) :=
  (r_Neg b1).bind fun r1 =>
  (r_Add a0 r1.1.1).bind fun r2 =>
  some ((r2.1.1, ()), ())
def r_Sign (a0 : List UInt8) : Option ((Int × Unit) × Unit) :=
  (r_parse a0).bind fun r1 =>
  cond (!r1.1.2.1)
    (some ((0, ()), ()))
    (cond (r1.1.1.2.1 == ([48] : List UInt8))
      (some ((0, ()), ()))
      (cond (r1.1.1.1)
        (some ((-1, ()), ()))
        (some ((1, ()), ()))))
def r_Cmp (a0 : List UInt8) (b1 : List UInt8) : Option ((Int × Unit) × Unit) :=
  (r_Valid a0).bind fun r1 =>
  cond (!r1.1.1)
    (some ((0, ()), ()))
    ((r_Valid b1).bind fun r2 =>
    cond (!r2.1.1)
      (some ((0, ()), ()))
      ((r_Sub a0 b1).bind fun r3 =>
      (r_Sign r3.1.1).bind fun r4 =>
      some ((r4.1.1, ()), ())))
def r_ValidValue_s14 (x : Val × Bool × Int × Unit) : Option (Ex × (Val × Bool × Int × Unit)) :=
  let v1 := x.1
  let t2 := x.2.1
  let i3 := x.2.2.1
  cond (decide (i3 < (v1.2.2.2.1.length : Int)))
    (grd (decide (0 ≤ i3) && decide (i3 < v1.2.2.2.1.length)) (
      (r_IsInt (v1.2.2.2.1.getD i3.toNat ([] : List UInt8))).bind fun r1 =>
      cond (!r1.1.1)
        (some (Ex.ret, (v1, false, i3, ())))
        (grd (decide (0 ≤ i3) && decide (i3 < v1.2.2.2.2.length)) (
          (r_IsInt (v1.2.2.2.2.getD i3.toNat ([] : List UInt8))).bind fun r2 =>
          cond (!r2.1.1)
            (some (Ex.ret, (v1, false, i3, ())))
            (grd (decide (0 ≤ i3) && decide (i3 < v1.2.2.2.2.length)) (
              cond ((v1.2.2.2.2.getD i3.toNat ([] : List UInt8)) == v1.2.2.1)
                (some (Ex.ret, (v1, false, i3, ())))
                (cond (decide (i3 > (0 : Int)))
                  (grd (decide (0 ≤ IntKind.i64.wrap (i3 - (1 : Int))) && decide (IntKind.i64.wrap (i3 - (1 : Int)) < v1.2.2.2.1.length)) (
                    grd (decide (0 ≤ i3) && decide (i3 < v1.2.2.2.1.length)) (
                      (r_Cmp (v1.2.2.2.1.getD (IntKind.i64.wrap (i3 - (1 : Int))).toNat ([] : List UInt8)) (v1.2.2.2.1.getD i3.toNat ([] : List UInt8))).bind fun r3 =>
                      cond (decide (r3.1.1 ≥ (0 : Int)))
                        (some (Ex.ret, (v1, false, i3, ())))
                        (some (Ex.normal, (v1, t2, IntKind.i64.wrap (i3 + (1 : Int)), ()))))))
                  (some (Ex.normal, (v1, t2, IntKind.i64.wrap (i3 + (1 : Int)), ()))))))))))
    (some (Ex.exit 1, (v1, t2, i3, ())))
def r_ValidValue (v0 : Val) : Option ((Bool × Unit) × Unit) :=
  cond (v0.1 != (4 : Int))
    (cond (decide ((v0.2.2.2.1.length : Int) > (0 : Int)))
      (some ((false, ()), ()))
      (cond (decide ((v0.2.2.2.2.length : Int) > (0 : Int)))
        (some ((false, ()), ()))
        (cond (v0.1 != (1 : Int))
          (cond (v0.2.1)
            (some ((false, ()), ()))
            (cond (v0.1 == (1 : Int))
              (some ((v0.2.2.1 == ([] : List UInt8), ()), ()))
              (cond (v0.1 == (2 : Int))
                ((r_IsInt v0.2.2.1).bind fun r1 =>
                some ((r1.1.1, ()), ()))
                (cond (v0.1 == (3 : Int))
                  ((r_Valid v0.2.2.1).bind fun r2 =>
                  some ((r2.1.1, ()), ()))
                  (cond (v0.1 == (4 : Int))
                    ((r_IsInt v0.2.2.1).bind fun r3 =>
                    cond (!r3.1.1)
                      (some ((false, ()), ()))
                      (cond ((v0.2.2.2.1.length : Int) != (v0.2.2.2.2.length : Int))
                        (some ((false, ()), ()))
                        ((loopO r_ValidValue_s14 (v0, false, 0, ())).bind fun y4 =>
                        cond (Ex.same y4.1 (Ex.exit 1))
                          (some ((true, ()), ()))
                          (cond (Ex.same y4.1 Ex.ret)
                            (some ((y4.2.2.1, ()), ()))
                            (none)))))
                    (some ((false, ()), ())))))))
          (cond (v0.1 == (1 : Int))
            (some ((v0.2.2.1 == ([] : List UInt8), ()), ()))
            (cond (v0.1 == (2 : Int))
              ((r_IsInt v0.2.2.1).bind fun r5 =>
              some ((r5.1.1, ()), ()))
              (cond (v0.1 == (3 : Int))
                ((r_Valid v0.2.2.1).bind fun r6 =>
                some ((r6.1.1, ()), ()))
                (cond (v0.1 == (4 : Int))
                  ((r_IsInt v0.2.2.1).bind fun r7 =>
                  cond (!r7.1.1)
                    (some ((false, ()), ()))
                    (cond ((v0.2.2.2.1.length : Int) != (v0.2.2.2.2.length : Int))
                      (some ((false, ()), ()))
                      ((loopO r_ValidValue_s14 (v0, false, 0, ())).bind fun y8 =>
                      cond (Ex.same y8.1 (Ex.exit 1))
                        (some ((true, ()), ()))
                        (cond (Ex.same y8.1 Ex.ret)
                          (some ((y8.2.2.1, ()), ()))
                          (none)))))
                  (some ((false, ()), ())))))))))
    (cond (v0.1 != (1 : Int))
      (cond (v0.2.1)
        (some ((false, ()), ()))
        (cond (v0.1 == (1 : Int))
          (some ((v0.2.2.1 == ([] : List UInt8), ()), ()))
          (cond (v0.1 == (2 : Int))
            ((r_IsInt v0.2.2.1).bind fun r9 =>
            some ((r9.1.1, ()), ()))
            (cond (v0.1 == (3 : Int))
              ((r_Valid v0.2.2.1).bind fun r10 =>
              some ((r10.1.1, ()), ()))
              (cond (v0.1 == (4 : Int))
                ((r_IsInt v0.2.2.1).bind fun r11 =>
                cond (!r11.1.1)
                  (some ((false, ()), ()))
                  (cond ((v0.2.2.2.1.length : Int) != (v0.2.2.2.2.length : Int))
                    (some ((false, ()), ()))
                    ((loopO r_ValidValue_s14 (v0, false, 0, ())).bind fun y12 =>
                    cond (Ex.same y12.1 (Ex.exit 1))
                      (some ((true, ()), ()))
                      (cond (Ex.same y12.1 Ex.ret)
                        (some ((y12.2.2.1, ()), ()))
                        (none)))))
                (some ((false, ()), ())))))))
      (cond (v0.1 == (1 : Int))
        (some ((v0.2.2.1 == ([] : List UInt8), ()), ()))
        (cond (v0.1 == (2 : Int))
          ((r_IsInt v0.2.2.1).bind fun r13 =>
          some ((r13.1.1, ()), ()))
          (cond (v0.1 == (3 : Int))
            ((r_Valid v0.2.2.1).bind fun r14 =>
            some ((r14.1.1, ()), ()))
            (cond (v0.1 == (4 : Int))
              ((r_IsInt v0.2.2.1).bind fun r15 =>
              cond (!r15.1.1)
                (some ((false, ()), ()))
                (cond ((v0.2.2.2.1.length : Int) != (v0.2.2.2.2.length : Int))
                  (some ((false, ()), ()))
                  ((loopO r_ValidValue_s14 (v0, false, 0, ())).bind fun y16 =>
                  cond (Ex.same y16.1 (Ex.exit 1))
                    (some ((true, ()), ()))
                    (cond (Ex.same y16.1 Ex.ret)
                      (some ((y16.2.2.1, ()), ()))
                      (none)))))
              (some ((false, ()), ())))))))
def r_Store_s6 (x : (List UInt8) × (List UInt8) × Val × Val × (Int × Bool × (List UInt8) × (List (List UInt8)) × List (List UInt8)) × Bool × Int × Unit) : Option (Ex × ((List UInt8) × (List UInt8) × Val × Val × (Int × Bool × (List UInt8) × (List (List UInt8)) × List (List UInt8)) × Bool × Int × Unit)) :=
  let index1 := x.1
  let num2 := x.2.1
  let a3 := x.2.2.1
  let t6 := x.2.2.2.1
  let out8 := x.2.2.2.2.1
  let put9 := x.2.2.2.2.2.1
  let i10 := x.2.2.2.2.2.2.1
  cond (decide (i10 ≤ (a3.2.2.2.1.length : Int)))
    (cond (!put9)
      (cond (i10 == (a3.2.2.2.1.length : Int))
        (cond (!(num2 == a3.2.2.1))
          (grd (decide (out8.2.2.2.1.length + ([index1] : List (List UInt8)).length ≤ maxN)) (
            grd (decide (out8.2.2.2.2.length + ([num2] : List (List UInt8)).length ≤ maxN)) (
              cond (decide (i10 < (a3.2.2.2.1.length : Int)))
                (grd (decide (0 ≤ i10) && decide (i10 < a3.2.2.2.1.length)) (
                  cond (!((a3.2.2.2.1.getD i10.toNat ([] : List UInt8)) == index1))
                    (grd (decide (0 ≤ i10) && decide (i10 < a3.2.2.2.1.length)) (grd (decide ((out8.2.2.2.1 ++ ([index1] : List (List UInt8))).length + ([a3.2.2.2.1.getD i10.toNat ([] : List UInt8)] : List (List UInt8)).length ≤ maxN)) (grd (decide (0 ≤ i10) && decide (i10 < a3.2.2.2.2.length)) (grd (decide ((out8.2.2.2.2 ++ ([num2] : List (List UInt8))).length + ([a3.2.2.2.2.getD i10.toNat ([] : List UInt8)] : List (List UInt8)).length ≤ maxN)) (some (Ex.normal, (index1, num2, a3, t6, (out8.1, out8.2.1, out8.2.2.1, (out8.2.2.2.1 ++ ([index1] : List (List UInt8))) ++ ([a3.2.2.2.1.getD i10.toNat ([] : List UInt8)] : List (List UInt8)), (out8.2.2.2.2 ++ ([num2] : List (List UInt8))) ++ ([a3.2.2.2.2.getD i10.toNat ([] : List UInt8)] : List (List UInt8))), true, IntKind.i64.wrap (i10 + (1 : Int)), ())))))))
                    (some (Ex.normal, (index1, num2, a3, t6, (out8.1, out8.2.1, out8.2.2.1, out8.2.2.2.1 ++ ([index1] : List (List UInt8)), out8.2.2.2.2 ++ ([num2] : List (List UInt8))), true, IntKind.i64.wrap (i10 + (1 : Int)), ())))))
                (some (Ex.normal, (index1, num2, a3, t6, (out8.1, out8.2.1, out8.2.2.1, out8.2.2.2.1 ++ ([index1] : List (List UInt8)), out8.2.2.2.2 ++ ([num2] : List (List UInt8))), true, IntKind.i64.wrap (i10 + (1 : Int)), ()))))))
          (cond (decide (i10 < (a3.2.2.2.1.length : Int)))
            (grd (decide (0 ≤ i10) && decide (i10 < a3.2.2.2.1.length)) (
              cond (!((a3.2.2.2.1.getD i10.toNat ([] : List UInt8)) == index1))
                (grd (decide (0 ≤ i10) && decide (i10 < a3.2.2.2.1.length)) (grd (decide (out8.2.2.2.1.length + ([a3.2.2.2.1.getD i10.toNat ([] : List UInt8)] : List (List UInt8)).length ≤ maxN)) (grd (decide (0 ≤ i10) && decide (i10 < a3.2.2.2.2.length)) (grd (decide (out8.2.2.2.2.length + ([a3.2.2.2.2.getD i10.toNat ([] : List UInt8)] : List (List UInt8)).length ≤ maxN)) (some (Ex.normal, (index1, num2, a3, t6, (out8.1, out8.2.1, out8.2.2.1, out8.2.2.2.1 ++ ([a3.2.2.2.1.getD i10.toNat ([] : List UInt8)] : List (List UInt8)), out8.2.2.2.2 ++ ([a3.2.2.2.2.getD i10.toNat ([] : List UInt8)] : List (List UInt8))), true, IntKind.i64.wrap (i10 + (1 : Int)), ())))))))
                (some (Ex.normal, (index1, num2, a3, t6, out8, true, IntKind.i64.wrap (i10 + (1 : Int)), ())))))
            (some (Ex.normal, (index1, num2, a3, t6, out8, true, IntKind.i64.wrap (i10 + (1 : Int)), ())))))
        (grd (decide (0 ≤ i10) && decide (i10 < a3.2.2.2.1.length)) (
          (r_Cmp (a3.2.2.2.1.getD i10.toNat ([] : List UInt8)) index1).bind fun r1 =>
          cond (decide (r1.1.1 ≥ (0 : Int)))
            (cond (!(num2 == a3.2.2.1))
              (grd (decide (out8.2.2.2.1.length + ([index1] : List (List UInt8)).length ≤ maxN)) (
                grd (decide (out8.2.2.2.2.length + ([num2] : List (List UInt8)).length ≤ maxN)) (
                  cond (decide (i10 < (a3.2.2.2.1.length : Int)))
                    (grd (decide (0 ≤ i10) && decide (i10 < a3.2.2.2.1.length)) (
                      cond (!((a3.2.2.2.1.getD i10.toNat ([] : List UInt8)) == index1))
                        (grd (decide (0 ≤ i10) && decide (i10 < a3.2.2.2.1.length)) (grd (decide ((out8.2.2.2.1 ++ ([index1] : List (List UInt8))).length + ([a3.2.2.2.1.getD i10.toNat ([] : List UInt8)] : List (List UInt8)).length ≤ maxN)) (grd (decide (0 ≤ i10) && decide (i10 < a3.2.2.2.2.length)) (grd (decide ((out8.2.2.2.2 ++ ([num2] : List (List UInt8))).length + ([a3.2.2.2.2.getD i10.toNat ([] : List UInt8)] : List (List UInt8)).length ≤ maxN)) (some (Ex.normal, (index1, num2, a3, t6, (out8.1, out8.2.1, out8.2.2.1, (out8.2.2.2.1 ++ ([index1] : List (List UInt8))) ++ ([a3.2.2.2.1.getD i10.toNat ([] : List UInt8)] : List (List UInt8)), (out8.2.2.2.2 ++ ([num2] : List (List UInt8))) ++ ([a3.2.2.2.2.getD i10.toNat ([] : List UInt8)] : List (List UInt8))), true, IntKind.i64.wrap (i10 + (1 : Int)), ())))))))
                        (some (Ex.normal, (index1, num2, a3, t6, (out8.1, out8.2.1, out8.2.2.1, out8.2.2.2.1 ++ ([index1] : List (List UInt8)), out8.2.2.2.2 ++ ([num2] : List (List UInt8))), true, IntKind.i64.wrap (i10 + (1 : Int)), ())))))
                    (some (Ex.normal, (index1, num2, a3, t6, (out8.1, out8.2.1, out8.2.2.1, out8.2.2.2.1 ++ ([index1] : List (List UInt8)), out8.2.2.2.2 ++ ([num2] : List (List UInt8))), true, IntKind.i64.wrap (i10 + (1 : Int)), ()))))))
              (cond (decide (i10 < (a3.2.2.2.1.length : Int)))
                (grd (decide (0 ≤ i10) && decide (i10 < a3.2.2.2.1.length)) (
                  cond (!((a3.2.2.2.1.getD i10.toNat ([] : List UInt8)) == index1))
                    (grd (decide (0 ≤ i10) && decide (i10 < a3.2.2.2.1.length)) (grd (decide (out8.2.2.2.1.length + ([a3.2.2.2.1.getD i10.toNat ([] : List UInt8)] : List (List UInt8)).length ≤ maxN)) (grd (decide (0 ≤ i10) && decide (i10 < a3.2.2.2.2.length)) (grd (decide (out8.2.2.2.2.length + ([a3.2.2.2.2.getD i10.toNat ([] : List UInt8)] : List (List UInt8)).length ≤ maxN)) (some (Ex.normal, (index1, num2, a3, t6, (out8.1, out8.2.1, out8.2.2.1, out8.2.2.2.1 ++ ([a3.2.2.2.1.getD i10.toNat ([] : List UInt8)] : List (List UInt8)), out8.2.2.2.2 ++ ([a3.2.2.2.2.getD i10.toNat ([] : List UInt8)] : List (List UInt8))), true, IntKind.i64.wrap (i10 + (1 : Int)), ())))))))
                    (some (Ex.normal, (index1, num2, a3, t6, out8, true, IntKind.i64.wrap (i10 + (1 : Int)), ())))))
                (some (Ex.normal, (index1, num2, a3, t6, out8, true, IntKind.i64.wrap (i10 + (1 : Int)), ())))))
            (cond (decide (i10 < (a3.2.2.2.1.length : Int)))
              (grd (decide (0 ≤ i10) && decide (i10 < a3.2.2.2.1.length)) (
                cond (!((a3.2.2.2.1.getD i10.toNat ([] : List UInt8)) == index1))
                  (grd (decide (0 ≤ i10) && decide (i10 < a3.2.2.2.1.length)) (grd (decide (out8.2.2.2.1.length + ([a3.2.2.2.1.getD i10.toNat ([] : List UInt8)] : List (List UInt8)).length ≤ maxN)) (grd (decide (0 ≤ i10) && decide (i10 < a3.2.2.2.2.length)) (grd (decide (out8.2.2.2.2.length + ([a3.2.2.2.2.getD i10.toNat ([] : List UInt8)] : List (List UInt8)).length ≤ maxN)) (some (Ex.normal, (index1, num2, a3, t6, (out8.1, out8.2.1, out8.2.2.1, out8.2.2.2.1 ++ ([a3.2.2.2.1.getD i10.toNat ([] : List UInt8)] : List (List UInt8)), out8.2.2.2.2 ++ ([a3.2.2.2.2.getD i10.toNat ([] : List UInt8)] : List (List UInt8))), put9, IntKind.i64.wrap (i10 + (1 : Int)), ())))))))
                  (some (Ex.normal, (index1, num2, a3, t6, out8, put9, IntKind.i64.wrap (i10 + (1 : Int)), ())))))
              (some (Ex.normal, (index1, num2, a3, t6, out8, put9, IntKind.i64.wrap (i10 + (1 : Int)), ())))))))
      (cond (decide (i10 < (a3.2.2.2.1.length : Int)))
        (grd (decide (0 ≤ i10) && decide (i10 < a3.2.2.2.1.length)) (
          cond (!((a3.2.2.2.1.getD i10.toNat ([] : List UInt8)) == index1))
            (grd (decide (0 ≤ i10) && decide (i10 < a3.2.2.2.1.length)) (grd (decide (out8.2.2.2.1.length + ([a3.2.2.2.1.getD i10.toNat ([] : List UInt8)] : List (List UInt8)).length ≤ maxN)) (grd (decide (0 ≤ i10) && decide (i10 < a3.2.2.2.2.length)) (grd (decide (out8.2.2.2.2.length + ([a3.2.2.2.2.getD i10.toNat ([] : List UInt8)] : List (List UInt8)).length ≤ maxN)) (some (Ex.normal, (index1, num2, a3, t6, (out8.1, out8.2.1, out8.2.2.1, out8.2.2.2.1 ++ ([a3.2.2.2.1.getD i10.toNat ([] : List UInt8)] : List (List UInt8)), out8.2.2.2.2 ++ ([a3.2.2.2.2.getD i10.toNat ([] : List UInt8)] : List (List UInt8))), put9, IntKind.i64.wrap (i10 + (1 : Int)), ())))))))
            (some (Ex.normal, (index1, num2, a3, t6, out8, put9, IntKind.i64.wrap (i10 + (1 : Int)), ())))))
        (some (Ex.normal, (index1, num2, a3, t6, out8, put9, IntKind.i64.wrap (i10 + (1 : Int)), ())))))
    (some (Ex.exit 0, (index1, num2, a3, t6, out8, put9, i10, ())))
def r_Store (a0 : Val) (index1 : List UInt8) (num2 : List UInt8) : Option ((Val × Int × Unit) × Unit) :=
  cond (a0.1 != (4 : Int))
    (some ((((0 : Int), false, ([] : List UInt8), ([] : List (List UInt8)), ([] : List (List UInt8))), 1, ()), ()))
    ((r_ValidValue a0).bind fun r1 =>
    cond (!r1.1.1)
      (some ((((0 : Int), false, ([] : List UInt8), ([] : List (List UInt8)), ([] : List (List UInt8))), 1, ()), ()))
      ((r_IsInt index1).bind fun r2 =>
      cond (!r2.1.1)
        (some ((((0 : Int), false, ([] : List UInt8), ([] : List (List UInt8)), ([] : List (List UInt8))), 1, ()), ()))
        ((r_IsInt num2).bind fun r3 =>
        cond (!r3.1.1)
          (some ((((0 : Int), false, ([] : List UInt8), ([] : List (List UInt8)), ([] : List (List UInt8))), 1, ()), ()))
          ((loopO r_Store_s6 (index1, num2, a0, ((0 : Int), false, ([] : List UInt8), ([] : List (List UInt8)), ([] : List (List UInt8))), (a0.1, false, a0.2.2.1, ([] : List (List UInt8)), ([] : List (List UInt8))), false, 0, ())).bind fun y4 =>
          cond (Ex.same y4.1 (Ex.exit 0))
            (some ((y4.2.2.2.2.2.1, 0, ()), ()))
            (none)))))
def r_Div (a0 : List UInt8) (b1 : List UInt8) : Option (((List UInt8) × Unit) × Unit) :=
  (r_parse a0).bind fun r1 =>
  (r_parse b1).bind fun r2 =>
  cond (!r1.1.2.1)
    (some ((([] : List UInt8), ()), ()))
    (cond (!r2.1.2.1)
      (some ((([] : List UInt8), ()), ()))
      (cond (r2.1.1.2.1 == ([48] : List UInt8))
        (some ((([] : List UInt8), ()), ()))
        ((r_mulMag r1.1.1.2.1 r2.1.1.2.2).bind fun r3 =>
        (r_mulMag r1.1.1.2.2 r2.1.1.2.1).bind fun r4 =>
        (r_reduce (!(r1.1.1.1 == r2.1.1.1)) r3.1.1 r4.1.1).bind fun r5 =>
        (r_ratio_text (r5.1.1.1, r5.1.1.2.1, r5.1.1.2.2)).bind fun r6 =>
        some ((r6.1.1, ()), ()))))
def g_Choices_Number (c0 : Choices) : Option (((List UInt8) × Unit) × (Choices × Unit)) :=
  (g_Choices_Integer (c0.1, c0.2)).bind fun r1 =>
  (g_Choices_Next (r1.2.1.1, r1.2.1.2) 4).bind fun r2 =>
  (r_FromInt (IntKind.i64.wrap ((1 : Int) + r2.1.1))).bind fun r3 =>
  (r_Div r1.1.1 r3.1.1).bind fun r4 =>
  some ((r4.1.1, ()), (r2.2.1.1, r2.2.1.2), ())
def g_Choices_Num (c0 : Choices) (sort1 : Int) : Option (((List UInt8) × Unit) × (Choices × Unit)) :=
  cond (sort1 == (2 : Int))
    ((g_Choices_Integer c0).bind fun r1 =>
    some ((r1.1.1, ()), r1.2.1, ()))
    ((g_Choices_Number c0).bind fun r2 =>
    some ((r2.1.1, ()), r2.2.1, ()))
def g_Choices_Value_s7 (x : Choices × Val × Val × Int × Unit) : Option (Ex × (Choices × Val × Val × Int × Unit)) :=
  let c0 := x.1
  let t4 := x.2.1
  let v5 := x.2.2.1
  let n6 := x.2.2.2.1
  cond (decide (n6 > (0 : Int)))
    ((g_Choices_Integer c0).bind fun r1 =>
    (g_Choices_Integer r1.2.1).bind fun r2 =>
    (r_Store v5 r1.1.1 r2.1.1).bind fun r3 =>
    some (Ex.normal, (r2.2.1, t4, r3.1.1, IntKind.i64.wrap (n6 - (1 : Int)), ())))
    (some (Ex.exit 1, (c0, t4, v5, n6, ())))
def g_Choices_Value (c0 : Choices) (sort1 : Int) : Option ((Val × Unit) × (Choices × Unit)) :=
  cond (sort1 == (1 : Int))
    ((g_Choices_Next c0 2).bind fun r1 =>
    some (((sort1, r1.1.1 == (1 : Int), ([] : List UInt8), ([] : List (List UInt8)), ([] : List (List UInt8))), ()), r1.2.1, ()))
    (cond (sort1 == (4 : Int))
      ((g_Choices_Integer c0).bind fun r2 =>
      (g_Choices_Next r2.2.1 4).bind fun r3 =>
      (loopO g_Choices_Value_s7 (r3.2.1, ((0 : Int), false, ([] : List UInt8), ([] : List (List UInt8)), ([] : List (List UInt8))), (sort1, false, r2.1.1, ([] : List (List UInt8)), ([] : List (List UInt8))), r3.1.1, ())).bind fun y4 =>
      cond (Ex.same y4.1 (Ex.exit 1))
        (some ((y4.2.2.2.1, ()), y4.2.1, ()))
        (none))
      ((g_Choices_Num c0 sort1).bind fun r5 =>
      some (((sort1, false, r5.1.1, ([] : List (List UInt8)), ([] : List (List UInt8))), ()), r5.2.1, ())))
def v_simple (v0 : Val) : Option ((Bool × Unit) × Unit) :=
  cond ((v0.2.2.2.1.length : Int) == (0 : Int))
    (some (((v0.2.2.2.2.length : Int) == (0 : Int), ()), ()))
    (some ((false, ()), ()))
def n_numeral_s2 (x : (List UInt8) × Bool × (List Int) × Int × Int × Unit) : Option (Ex × ((List UInt8) × Bool × (List Int) × Int × Int × Unit)) :=
  let s0 := x.1
  let t2 := x.2.1
  let t6 := x.2.2.1
  let t7 := x.2.2.2.1
  let t8 := x.2.2.2.2.1
  cond (decide (t8 < t7))
    (grd (decide (0 ≤ t8) && decide (t8 < t6.length)) (
      cond (decide ((t6.getD t8.toNat (0 : Int)) < (48 : Int)))
        (some (Ex.ret, (s0, false, t6, t7, t8, ())))
        (cond (decide ((t6.getD t8.toNat (0 : Int)) > (57 : Int)))
          (some (Ex.ret, (s0, false, t6, t7, t8, ())))
          (some (Ex.normal, (s0, t2, t6, t7, IntKind.i64.wrap (t8 + (1 : Int)), ()))))))
    (some (Ex.exit 0, (s0, t2, t6, t7, t8, ())))
def n_numeral (s0 : List UInt8) : Option ((Bool × Unit) × Unit) :=
  (loopO n_numeral_s2 (s0, false, s0.map fun b => (b.toNat : Int), ((s0.map fun b => (b.toNat : Int)).length : Int), 0, ())).bind fun y1 =>
  cond (Ex.same y1.1 (Ex.exit 0))
    (cond (y1.2.1 == ([48] : List UInt8))
      (some ((true, ()), ()))
      (cond (!(y1.2.1 == ([] : List UInt8)))
        (grd (decide (0 ≤ (0 : Int)) && decide ((0 : Int) < y1.2.1.length)) (some ((((y1.2.1.getD (0 : Int).toNat 0).toNat : Int) != (48 : Int), ()), ())))
        (some ((false, ()), ()))))
    (cond (Ex.same y1.1 Ex.ret)
      (some ((y1.2.2.1, ()), ()))
      (none))
def n_IsInt (a0 : List UInt8) : Option ((Bool × Unit) × Unit) :=
  (strings_CutPrefix a0 ([45] : List UInt8)).bind fun r1 =>
  (n_numeral r1.1.1).bind fun r2 =>
  cond (r2.1.1)
    (cond (r1.1.2.1)
      (some ((!(r1.1.1 == ([48] : List UInt8)), ()), ()))
      (some ((true, ()), ())))
    (some ((false, ()), ()))
def n_divisor_s1 (x : Int × Int × Unit) : Option (Ex × (Int × Int × Unit)) :=
  let a0 := x.1
  let b1 := x.2.1
  cond (b1 != (0 : Int))
    (grd (b1 != 0) (some (Ex.normal, (b1, a0.tmod b1, ()))))
    (some (Ex.exit 0, (a0, b1, ())))
def n_divisor (a0 : Int) (b1 : Int) : Option ((Int × Unit) × Unit) :=
  (loopO n_divisor_s1 (a0, b1, ())).bind fun y1 =>
  cond (Ex.same y1.1 (Ex.exit 0))
    (some ((y1.2.1, ()), ()))
    (none)
def n_smallOf (a0 : List UInt8) : Option ((Sml × Bool × Unit) × Unit) :=
  (strings_CutPrefix a0 ([45] : List UInt8)).bind fun r1 =>
  (strings_Cut r1.1.1 ([47] : List UInt8)).bind fun r2 =>
  cond (decide ((r2.1.1.length : Int) > (9 : Int)))
    (some ((((0 : Int), (0 : Int)), false, ()), ()))
    (cond (decide ((r2.1.2.1.length : Int) > (9 : Int)))
      (some ((((0 : Int), (0 : Int)), false, ()), ()))
      ((n_numeral r2.1.1).bind fun r3 =>
      cond (!r3.1.1)
        (some ((((0 : Int), (0 : Int)), false, ()), ()))
        (cond (r2.1.1 == ([48] : List UInt8))
          (cond (r1.1.2.1)
            (some ((((0 : Int), (0 : Int)), false, ()), ()))
            (cond (r2.1.2.2.1)
              (some ((((0 : Int), (0 : Int)), false, ()), ()))
              ((strconv_ParseInt r2.1.1 10 64).bind fun r4 =>
              cond (r2.1.2.2.1)
                ((n_numeral r2.1.2.1).bind fun r5 =>
                cond (!r5.1.1)
                  (some ((((0 : Int), (0 : Int)), false, ()), ()))
                  ((strconv_ParseInt r2.1.2.1 10 64).bind fun r6 =>
                  cond (decide (r6.1.1 < (2 : Int)))
                    (some ((((0 : Int), (0 : Int)), false, ()), ()))
                    ((n_divisor r4.1.1 r6.1.1).bind fun r7 =>
                    cond (r7.1.1 != (1 : Int))
                      (some ((((0 : Int), (0 : Int)), false, ()), ()))
                      (cond (r1.1.2.1)
                        (some (((IntKind.i64.wrap (0 - r4.1.1), r6.1.1), true, ()), ()))
                        (some (((r4.1.1, r6.1.1), true, ()), ()))))))
                (cond (r1.1.2.1)
                  (some (((IntKind.i64.wrap (0 - r4.1.1), 1), true, ()), ()))
                  (some (((r4.1.1, 1), true, ()), ()))))))
          ((strconv_ParseInt r2.1.1 10 64).bind fun r8 =>
          cond (r2.1.2.2.1)
            ((n_numeral r2.1.2.1).bind fun r9 =>
            cond (!r9.1.1)
              (some ((((0 : Int), (0 : Int)), false, ()), ()))
              ((strconv_ParseInt r2.1.2.1 10 64).bind fun r10 =>
              cond (decide (r10.1.1 < (2 : Int)))
                (some ((((0 : Int), (0 : Int)), false, ()), ()))
                ((n_divisor r8.1.1 r10.1.1).bind fun r11 =>
                cond (r11.1.1 != (1 : Int))
                  (some ((((0 : Int), (0 : Int)), false, ()), ()))
                  (cond (r1.1.2.1)
                    (some (((IntKind.i64.wrap (0 - r8.1.1), r10.1.1), true, ()), ()))
                    (some (((r8.1.1, r10.1.1), true, ()), ()))))))
            (cond (r1.1.2.1)
              (some (((IntKind.i64.wrap (0 - r8.1.1), 1), true, ()), ()))
              (some (((r8.1.1, 1), true, ()), ())))))))
def n_nat_trim_s2 (x : (List Int) × Int × Unit) : Option (Ex × ((List Int) × Int × Unit)) :=
  let a0 := x.1
  let n3 := x.2.1
  cond (decide (n3 > (0 : Int)))
    (grd (decide (0 ≤ IntKind.i64.wrap (n3 - (1 : Int))) && decide (IntKind.i64.wrap (n3 - (1 : Int)) < a0.length)) (
      cond ((a0.getD (IntKind.i64.wrap (n3 - (1 : Int))).toNat (0 : Int)) == (0 : Int))
        (some (Ex.normal, (a0, IntKind.i64.wrap (n3 - (1 : Int)), ())))
        (some (Ex.exit 0, (a0, n3, ())))))
    (some (Ex.exit 0, (a0, n3, ())))
def n_nat_trim (a0 : List Int) : Option (((List Int) × Unit) × Unit) :=
  (loopO n_nat_trim_s2 (a0, (a0.length : Int), ())).bind fun y1 =>
  cond (Ex.same y1.1 (Ex.exit 0))
    (grd (decide (0 ≤ y1.2.2.1) && decide (y1.2.2.1 ≤ y1.2.1.length)) (some ((y1.2.1.take y1.2.2.1.toNat, ()), ())))
    (none)
def n_natOf_s7 (x : (List UInt8) × (List Int) × Int × Int × (List Int) × Int × Int × Unit) : Option (Ex × ((List UInt8) × (List Int) × Int × Int × (List Int) × Int × Int × Unit)) :=
  let s0 := x.1
  let out3 := x.2.1
  let end4 := x.2.2.1
  let v5 := x.2.2.2.1
  let t20 := x.2.2.2.2.1
  let t21 := x.2.2.2.2.2.1
  let t22 := x.2.2.2.2.2.2.1
  cond (decide (t22 < t21))
    (grd (decide (0 ≤ t22) && decide (t22 < t20.length)) (some (Ex.normal, (s0, out3, end4, IntKind.u32.wrap ((IntKind.u32.wrap (v5 * (10 : Int))) + (IntKind.u32.wrap (IntKind.u8.wrap ((t20.getD t22.toNat (0 : Int)) - (48 : Int))))), t20, t21, IntKind.i64.wrap (t22 + (1 : Int)), ()))))
    (some (Ex.exit 2, (s0, out3, end4, v5, t20, t21, t22, ())))
def n_natOf_s3 (x : (List UInt8) × (List Int) × Int × Unit) : Option (Ex × ((List UInt8) × (List Int) × Int × Unit)) :=
  let s0 := x.1
  let out3 := x.2.1
  let end4 := x.2.2.1
  cond (decide (end4 > (0 : Int)))
    (grd (decide (0 ≤ maxA (IntKind.i64.wrap (end4 - (9 : Int))) (0 : Int)) && decide (maxA (IntKind.i64.wrap (end4 - (9 : Int))) (0 : Int) ≤ end4) && decide (end4 ≤ s0.length)) (
      (loopO n_natOf_s7 (s0, out3, end4, 0, ((s0.take end4.toNat).drop (maxA (IntKind.i64.wrap (end4 - (9 : Int))) (0 : Int)).toNat).map fun b => (b.toNat : Int), ((((s0.take end4.toNat).drop (maxA (IntKind.i64.wrap (end4 - (9 : Int))) (0 : Int)).toNat).map fun b => (b.toNat : Int)).length : Int), 0, ())).bind fun y1 =>
      cond (Ex.same y1.1 (Ex.exit 2))
        (grd (decide (y1.2.2.1.length + ([y1.2.2.2.2.1] : List Int).length ≤ maxN)) (some (Ex.normal, (y1.2.1, y1.2.2.1 ++ ([y1.2.2.2.2.1] : List Int), IntKind.i64.wrap (y1.2.2.2.1 - (9 : Int)), ()))))
        (none)))
    (some (Ex.exit 0, (s0, out3, end4, ())))
def n_natOf (s0 : List UInt8) : Option (((List Int) × Unit) × Unit) :=
  (loopO n_natOf_s3 (s0, ([] : List Int), (s0.length : Int), ())).bind fun y1 =>
  cond (Ex.same y1.1 (Ex.exit 0))
    ((n_nat_trim y1.2.2.1).bind fun r2 =>
    some ((r2.1.1, ()), ()))
    (none)
def n_nat_cmp_s4 (x : (List Int) × (List Int) × Int × Int × Unit) : Option (Ex × ((List Int) × (List Int) × Int × Int × Unit)) :=
  let a0 := x.1
  let b1 := x.2.1
  let t4 := x.2.2.1
  let i5 := x.2.2.2.1
  cond (decide (i5 ≥ (0 : Int)))
    (grd (decide (0 ≤ i5) && decide (i5 < a0.length)) (
      grd (decide (0 ≤ i5) && decide (i5 < b1.length)) (
        cond ((a0.getD i5.toNat (0 : Int)) != (b1.getD i5.toNat (0 : Int)))
          (grd (decide (0 ≤ i5) && decide (i5 < a0.length)) (grd (decide (0 ≤ i5) && decide (i5 < b1.length)) (some (Ex.ret, (a0, b1, IntKind.i64.wrap ((IntKind.i64.wrap (a0.getD i5.toNat (0 : Int))) - (IntKind.i64.wrap (b1.getD i5.toNat (0 : Int)))), i5, ())))))
          (some (Ex.normal, (a0, b1, t4, IntKind.i64.wrap (i5 - (1 : Int)), ()))))))
    (some (Ex.exit 0, (a0, b1, t4, i5, ())))
def n_nat_cmp (a0 : List Int) (b1 : List Int) : Option ((Int × Unit) × Unit) :=
  cond ((a0.length : Int) != (b1.length : Int))
    (some ((IntKind.i64.wrap ((a0.length : Int) - (b1.length : Int)), ()), ()))
    ((loopO n_nat_cmp_s4 (a0, b1, 0, IntKind.i64.wrap ((a0.length : Int) - (1 : Int)), ())).bind fun y1 =>
    cond (Ex.same y1.1 (Ex.exit 0))
      (some ((0, ()), ()))
      (cond (Ex.same y1.1 Ex.ret)
        (some ((y1.2.2.2.1, ()), ()))
        (none)))
def n_nat_quoLimb_s4 (x : (List Int) × Int × (List Int) × Int × Int × Unit) : Option (Ex × ((List Int) × Int × (List Int) × Int × Int × Unit)) :=
  let a0 := x.1
  let b1 := x.2.1
  let q6 := x.2.2.1
  let rest7 := x.2.2.2.1
  let i8 := x.2.2.2.2.1
  cond (decide (i8 ≥ (0 : Int)))
    (grd (decide (0 ≤ i8) && decide (i8 < a0.length)) (grd ((IntKind.u64.wrap (b1)) != 0) (grd ((IntKind.u64.wrap (b1)) != 0) (grd (decide (0 ≤ i8) && decide (i8 < q6.length)) (grd (decide (i8.toNat < q6.length)) (some (Ex.normal, (a0, b1, q6.set i8.toNat (IntKind.u32.wrap (IntKind.u64.wrap ((IntKind.u64.wrap ((IntKind.u64.wrap (rest7 * (1000000000 : Int))) + (IntKind.u64.wrap (a0.getD i8.toNat (0 : Int))))).tdiv (IntKind.u64.wrap (b1))))), (IntKind.u64.wrap ((IntKind.u64.wrap (rest7 * (1000000000 : Int))) + (IntKind.u64.wrap (a0.getD i8.toNat (0 : Int))))).tmod (IntKind.u64.wrap (b1)), IntKind.i64.wrap (i8 - (1 : Int)), ()))))))))
    (some (Ex.exit 0, (a0, b1, q6, rest7, i8, ())))
def n_nat_quoLimb (a0 : List Int) (b1 : Int) : Option (((List Int) × (List Int) × Unit) × Unit) :=
  grd (decide (0 ≤ (a0.length : Int)) && decide ((a0.length : Int) ≤ (a0.length : Int)) && decide ((a0.length : Int) ≤ maxN)) (
    (loopO n_nat_quoLimb_s4 (a0, b1, List.replicate (a0.length : Int).toNat (0 : Int), 0, IntKind.i64.wrap ((a0.length : Int) - (1 : Int)), ())).bind fun y1 =>
    cond (Ex.same y1.1 (Ex.exit 0))
      ((n_nat_trim y1.2.2.2.1).bind fun r2 =>
      (n_nat_trim ([IntKind.u32.wrap (y1.2.2.2.2.1)] : List Int)).bind fun r3 =>
      some ((r2.1.1, r3.1.1, ()), ()))
      (none))
def n_nat_trim_v_s2 (x : (List Int) × Int × Unit) : Option (Ex × ((List Int) × Int × Unit)) :=
  let a0 := x.1
  let n3 := x.2.1
  cond (decide (n3 > (0 : Int)))
    (grd (decide (0 ≤ IntKind.i64.wrap (n3 - (1 : Int))) && decide (IntKind.i64.wrap (n3 - (1 : Int)) < a0.length)) (
      grd (decide ((IntKind.i64.wrap (n3 - (1 : Int))).toNat < a0.length)) (
        cond ((a0.getD ((IntKind.i64.wrap (n3 - (1 : Int))).toNat) (0 : Int)) == (0 : Int))
          (some (Ex.normal, (a0, IntKind.i64.wrap (n3 - (1 : Int)), ())))
          (some (Ex.exit 0, (a0, n3, ()))))))
    (some (Ex.exit 0, (a0, n3, ())))
def n_nat_trim_v (a0 : List Int) : Option ((Nat × Unit) × ((List Int) × Unit)) :=
  (loopO n_nat_trim_v_s2 (a0, (a0.length : Int), ())).bind fun y1 =>
  cond (Ex.same y1.1 (Ex.exit 0))
    (grd (decide (0 ≤ y1.2.2.1) && decide (y1.2.2.1 ≤ y1.2.1.length)) (some ((y1.2.2.1.toNat, ()), y1.2.1, ())))
    (none)
def n_nat_mul_r_s7 (x : (List Int) × (List Int) × Int × Int × Int × (List Int) × Int × Int × (List Int) × Int × Int × Unit) : Option (Ex × ((List Int) × (List Int) × Int × Int × Int × (List Int) × Int × Int × (List Int) × Int × Int × Unit)) :=
  let b1 := x.1
  let out5 := x.2.1
  let i6 := x.2.2.1
  let x7 := x.2.2.2.1
  let carry8 := x.2.2.2.2.1
  let t18 := x.2.2.2.2.2.1
  let t19 := x.2.2.2.2.2.2.1
  let t20 := x.2.2.2.2.2.2.2.1
  let t25 := x.2.2.2.2.2.2.2.2.1
  let t26 := x.2.2.2.2.2.2.2.2.2.1
  let t27 := x.2.2.2.2.2.2.2.2.2.2.1
  cond (decide (t27 < t26))
    (grd (decide (0 ≤ t27) && decide (t27 < t25.length)) (grd (decide (0 ≤ IntKind.i64.wrap (i6 + t27)) && decide (IntKind.i64.wrap (i6 + t27) < out5.length)) (grd (decide ((IntKind.i64.wrap (i6 + t27)).toNat < out5.length)) (grd ((1000000000 : Int) != 0) (grd ((1000000000 : Int) != 0) (grd (decide (0 ≤ IntKind.i64.wrap (i6 + t27)) && decide (IntKind.i64.wrap (i6 + t27) < out5.length)) (grd (decide ((IntKind.i64.wrap (i6 + t27)).toNat < out5.length)) (some (Ex.normal, (b1, out5.set ((IntKind.i64.wrap (i6 + t27)).toNat) (IntKind.u32.wrap ((IntKind.u64.wrap ((IntKind.u64.wrap ((IntKind.u64.wrap (out5.getD ((IntKind.i64.wrap (i6 + t27)).toNat) (0 : Int))) + (IntKind.u64.wrap ((IntKind.u64.wrap (x7)) * (IntKind.u64.wrap (t25.getD t27.toNat (0 : Int))))))) + carry8)).tmod 1000000000)), i6, x7, IntKind.u64.wrap ((IntKind.u64.wrap ((IntKind.u64.wrap ((IntKind.u64.wrap (out5.getD ((IntKind.i64.wrap (i6 + t27)).toNat) (0 : Int))) + (IntKind.u64.wrap ((IntKind.u64.wrap (x7)) * (IntKind.u64.wrap (t25.getD t27.toNat (0 : Int))))))) + carry8)).tdiv 1000000000), t18, t19, t20, t25, t26, IntKind.i64.wrap (t27 + (1 : Int)), ()))))))))))
    (some (Ex.exit 2, (b1, out5, i6, x7, carry8, t18, t19, t20, t25, t26, t27, ())))
def n_nat_mul_r_s3 (x : (List Int) × (List Int) × (List Int) × Int × Int × Unit) : Option (Ex × ((List Int) × (List Int) × (List Int) × Int × Int × Unit)) :=
  let b1 := x.1
  let out5 := x.2.1
  let t18 := x.2.2.1
  let t19 := x.2.2.2.1
  let t20 := x.2.2.2.2.1
  cond (decide (t20 < t19))
    (grd (decide (0 ≤ t20) && decide (t20 < t18.length)) (
      (loopO n_nat_mul_r_s7 (b1, out5, t20, t18.getD t20.toNat (0 : Int), 0, t18, t19, t20, b1, (b1.length : Int), 0, ())).bind fun y1 =>
      cond (Ex.same y1.1 (Ex.exit 2))
        (grd (decide (0 ≤ IntKind.i64.wrap (y1.2.2.2.1 + (y1.2.1.length : Int))) && decide (IntKind.i64.wrap (y1.2.2.2.1 + (y1.2.1.length : Int)) < y1.2.2.1.length)) (grd (decide ((IntKind.i64.wrap (y1.2.2.2.1 + (y1.2.1.length : Int))).toNat < y1.2.2.1.length)) (some (Ex.normal, (y1.2.1, y1.2.2.1.set ((IntKind.i64.wrap (y1.2.2.2.1 + (y1.2.1.length : Int))).toNat) (IntKind.u32.wrap (y1.2.2.2.2.2.1)), y1.2.2.2.2.2.2.1, y1.2.2.2.2.2.2.2.1, IntKind.i64.wrap (y1.2.2.2.2.2.2.2.2.1 + (1 : Int)), ())))))
        (none)))
    (some (Ex.exit 0, (b1, out5, t18, t19, t20, ())))
def n_nat_mul_r (a0 : List Int) (b1 : List Int) : Option (((List Int) × Unit) × Unit) :=
  grd (decide (0 ≤ IntKind.i64.wrap ((a0.length : Int) + (b1.length : Int))) && decide (IntKind.i64.wrap ((a0.length : Int) + (b1.length : Int)) ≤ IntKind.i64.wrap ((a0.length : Int) + (b1.length : Int))) && decide (IntKind.i64.wrap ((a0.length : Int) + (b1.length : Int)) ≤ maxN)) (
    (loopO n_nat_mul_r_s3 (b1, List.replicate (IntKind.i64.wrap ((a0.length : Int) + (b1.length : Int))).toNat (0 : Int), a0, (a0.length : Int), 0, ())).bind fun y1 =>
    cond (Ex.same y1.1 (Ex.exit 0))
      ((n_nat_trim_v y1.2.2.1).bind fun r2 =>
      some ((r2.2.1.take r2.1.1, ()), ()))
      (none))
def n_subtract_s3 (x : (List Int) × (List Int) × Int × Int × Int × Int × Int × Unit) : Option (Ex × ((List Int) × (List Int) × Int × Int × Int × Int × Int × Unit)) :=
  let u0 := x.1
  let v1 := x.2.1
  let times2 := x.2.2.1
  let carry7 := x.2.2.2.1
  let borrow8 := x.2.2.2.2.1
  let t12 := x.2.2.2.2.2.1
  let t13 := x.2.2.2.2.2.2.1
  cond (decide (t13 < t12))
    (cond (decide (t13 < (v1.length : Int)))
      (grd (decide (0 ≤ t13) && decide (t13 < v1.length)) (
        grd (decide (0 ≤ t13) && decide (t13 < u0.length)) (
          grd (decide (t13.toNat < u0.length)) (
            grd ((1000000000 : Int) != 0) (
              grd ((1000000000 : Int) != 0) (
                cond (decide ((IntKind.i64.wrap ((IntKind.i64.wrap ((IntKind.i64.wrap (u0.getD t13.toNat (0 : Int))) - borrow8)) - (IntKind.i64.wrap ((IntKind.u64.wrap (carry7 + (IntKind.u64.wrap (times2 * (IntKind.u64.wrap (v1.getD t13.toNat (0 : Int))))))).tmod 1000000000)))) < (0 : Int)))
                  (grd (decide (0 ≤ t13) && decide (t13 < u0.length)) (grd (decide (t13.toNat < u0.length)) (some (Ex.normal, (u0.set t13.toNat (IntKind.u32.wrap (IntKind.i64.wrap ((IntKind.i64.wrap ((IntKind.i64.wrap ((IntKind.i64.wrap (u0.getD t13.toNat (0 : Int))) - borrow8)) - (IntKind.i64.wrap ((IntKind.u64.wrap (carry7 + (IntKind.u64.wrap (times2 * (IntKind.u64.wrap (v1.getD t13.toNat (0 : Int))))))).tmod 1000000000)))) + (1000000000 : Int)))), v1, times2, IntKind.u64.wrap ((IntKind.u64.wrap (carry7 + (IntKind.u64.wrap (times2 * (IntKind.u64.wrap (v1.getD t13.toNat (0 : Int))))))).tdiv 1000000000), 1, t12, IntKind.i64.wrap (t13 + (1 : Int)), ())))))
                  (grd (decide (0 ≤ t13) && decide (t13 < u0.length)) (grd (decide (t13.toNat < u0.length)) (some (Ex.normal, (u0.set t13.toNat (IntKind.u32.wrap (IntKind.i64.wrap ((IntKind.i64.wrap ((IntKind.i64.wrap (u0.getD t13.toNat (0 : Int))) - borrow8)) - (IntKind.i64.wrap ((IntKind.u64.wrap (carry7 + (IntKind.u64.wrap (times2 * (IntKind.u64.wrap (v1.getD t13.toNat (0 : Int))))))).tmod 1000000000))))), v1, times2, IntKind.u64.wrap ((IntKind.u64.wrap (carry7 + (IntKind.u64.wrap (times2 * (IntKind.u64.wrap (v1.getD t13.toNat (0 : Int))))))).tdiv 1000000000), 0, t12, IntKind.i64.wrap (t13 + (1 : Int)), ())))))))))))
      (grd (decide (0 ≤ t13) && decide (t13 < u0.length)) (
        grd (decide (t13.toNat < u0.length)) (
          grd ((1000000000 : Int) != 0) (
            grd ((1000000000 : Int) != 0) (
              cond (decide ((IntKind.i64.wrap ((IntKind.i64.wrap ((IntKind.i64.wrap (u0.getD t13.toNat (0 : Int))) - borrow8)) - (IntKind.i64.wrap (carry7.tmod 1000000000)))) < (0 : Int)))
                (grd (decide (0 ≤ t13) && decide (t13 < u0.length)) (grd (decide (t13.toNat < u0.length)) (some (Ex.normal, (u0.set t13.toNat (IntKind.u32.wrap (IntKind.i64.wrap ((IntKind.i64.wrap ((IntKind.i64.wrap ((IntKind.i64.wrap (u0.getD t13.toNat (0 : Int))) - borrow8)) - (IntKind.i64.wrap (carry7.tmod 1000000000)))) + (1000000000 : Int)))), v1, times2, IntKind.u64.wrap (carry7.tdiv 1000000000), 1, t12, IntKind.i64.wrap (t13 + (1 : Int)), ())))))
                (grd (decide (0 ≤ t13) && decide (t13 < u0.length)) (grd (decide (t13.toNat < u0.length)) (some (Ex.normal, (u0.set t13.toNat (IntKind.u32.wrap (IntKind.i64.wrap ((IntKind.i64.wrap ((IntKind.i64.wrap (u0.getD t13.toNat (0 : Int))) - borrow8)) - (IntKind.i64.wrap (carry7.tmod 1000000000))))), v1, times2, IntKind.u64.wrap (carry7.tdiv 1000000000), 0, t12, IntKind.i64.wrap (t13 + (1 : Int)), ())))))))))))
    (some (Ex.exit 0, (u0, v1, times2, carry7, borrow8, t12, t13, ())))
def n_subtract (u0 : List Int) (v1 : List Int) (times2 : Int) : Option ((Bool × Unit) × ((List Int) × Unit)) :=
  (loopO n_subtract_s3 (u0, v1, times2, 0, 0, (u0.length : Int), 0, ())).bind fun y1 =>
  cond (Ex.same y1.1 (Ex.exit 0))
    (some ((decide (y1.2.2.2.2.2.1 > (0 : Int)), ()), y1.2.1, ()))
    (none)
def n_nat_at (a0 : List Int) (i1 : Int) : Option ((Int × Unit) × Unit) :=
  cond (decide (i1 ≥ (a0.length : Int)))
    (some ((0, ()), ()))
    (grd (decide (0 ≤ i1) && decide (i1 < a0.length)) (some ((a0.getD i1.toNat (0 : Int), ()), ())))
def n_restore_s2 (x : (List Int) × (List Int) × Int × Int × Int × Unit) : Option (Ex × ((List Int) × (List Int) × Int × Int × Int × Unit)) :=
  let u0 := x.1
  let v1 := x.2.1
  let carry4 := x.2.2.1
  let t8 := x.2.2.2.1
  let t9 := x.2.2.2.2.1
  cond (decide (t9 < t8))
    (grd (decide (0 ≤ t9) && decide (t9 < u0.length)) (
      grd (decide (t9.toNat < u0.length)) (
        (n_nat_at v1 t9).bind fun r1 =>
        grd ((1000000000 : Int) != 0) (grd ((1000000000 : Int) != 0) (grd (decide (0 ≤ t9) && decide (t9 < u0.length)) (grd (decide (t9.toNat < u0.length)) (some (Ex.normal, (u0.set t9.toNat ((IntKind.u32.wrap ((IntKind.u32.wrap ((u0.getD t9.toNat (0 : Int)) + r1.1.1)) + carry4)).tmod 1000000000), v1, IntKind.u32.wrap ((IntKind.u32.wrap ((IntKind.u32.wrap ((u0.getD t9.toNat (0 : Int)) + r1.1.1)) + carry4)).tdiv 1000000000), t8, IntKind.i64.wrap (t9 + (1 : Int)), ())))))))))
    (some (Ex.exit 0, (u0, v1, carry4, t8, t9, ())))
def n_restore (u0 : List Int) (v1 : List Int) : Option ((Unit) × ((List Int) × Unit)) :=
  (loopO n_restore_s2 (u0, v1, 0, (u0.length : Int), 0, ())).bind fun y1 =>
  cond (Ex.same y1.1 (Ex.exit 0))
    (some ((), y1.2.1, ()))
    (none)
def n_reduce_s4 (x : (List Int) × (List Int) × Int × Int × Int × Int × Unit) : Option (Ex × ((List Int) × (List Int) × Int × Int × Int × Int × Unit)) :=
  let u0 := x.1
  let v1 := x.2.1
  let n5 := x.2.2.1
  let first7 := x.2.2.2.1
  let guess8 := x.2.2.2.2.1
  let rest9 := x.2.2.2.2.2.1
  cond (decide (guess8 ≥ (1000000000 : Int)))
    (cond (decide ((IntKind.u64.wrap (rest9 + first7)) ≥ (1000000000 : Int)))
      (some (Ex.exit 0, (u0, v1, n5, first7, IntKind.u64.wrap (guess8 - (1 : Int)), IntKind.u64.wrap (rest9 + first7), ())))
      (some (Ex.normal, (u0, v1, n5, first7, IntKind.u64.wrap (guess8 - (1 : Int)), IntKind.u64.wrap (rest9 + first7), ()))))
    (grd (decide (0 ≤ IntKind.i64.wrap (n5 - (2 : Int))) && decide (IntKind.i64.wrap (n5 - (2 : Int)) < v1.length)) (
      grd (decide (0 ≤ IntKind.i64.wrap (n5 - (2 : Int))) && decide (IntKind.i64.wrap (n5 - (2 : Int)) < u0.length)) (
        grd (decide ((IntKind.i64.wrap (n5 - (2 : Int))).toNat < u0.length)) (
          cond (decide ((IntKind.u64.wrap (guess8 * (IntKind.u64.wrap (v1.getD (IntKind.i64.wrap (n5 - (2 : Int))).toNat (0 : Int))))) > (IntKind.u64.wrap ((IntKind.u64.wrap (rest9 * (1000000000 : Int))) + (IntKind.u64.wrap (u0.getD ((IntKind.i64.wrap (n5 - (2 : Int))).toNat) (0 : Int)))))))
            (cond (decide ((IntKind.u64.wrap (rest9 + first7)) ≥ (1000000000 : Int)))
              (some (Ex.exit 0, (u0, v1, n5, first7, IntKind.u64.wrap (guess8 - (1 : Int)), IntKind.u64.wrap (rest9 + first7), ())))
              (some (Ex.normal, (u0, v1, n5, first7, IntKind.u64.wrap (guess8 - (1 : Int)), IntKind.u64.wrap (rest9 + first7), ()))))
            (some (Ex.exit 0, (u0, v1, n5, first7, guess8, rest9, ())))))))
def n_reduce (u0 : List Int) (v1 : List Int) : Option ((Int × Unit) × ((List Int) × Unit)) :=
  grd (decide (0 ≤ (v1.length : Int)) && decide ((v1.length : Int) < u0.length)) (
    grd (decide ((v1.length : Int).toNat < u0.length)) (
      grd (decide (0 ≤ IntKind.i64.wrap ((v1.length : Int) - (1 : Int))) && decide (IntKind.i64.wrap ((v1.length : Int) - (1 : Int)) < u0.length)) (
        grd (decide ((IntKind.i64.wrap ((v1.length : Int) - (1 : Int))).toNat < u0.length)) (
          grd (decide (0 ≤ IntKind.i64.wrap ((v1.length : Int) - (1 : Int))) && decide (IntKind.i64.wrap ((v1.length : Int) - (1 : Int)) < v1.length)) (
            grd ((IntKind.u64.wrap (v1.getD (IntKind.i64.wrap ((v1.length : Int) - (1 : Int))).toNat (0 : Int))) != 0) (
              grd ((IntKind.u64.wrap (v1.getD (IntKind.i64.wrap ((v1.length : Int) - (1 : Int))).toNat (0 : Int))) != 0) (
                (loopO n_reduce_s4 (u0, v1, (v1.length : Int), IntKind.u64.wrap (v1.getD (IntKind.i64.wrap ((v1.length : Int) - (1 : Int))).toNat (0 : Int)), IntKind.u64.wrap ((IntKind.u64.wrap ((IntKind.u64.wrap ((IntKind.u64.wrap (u0.getD ((v1.length : Int).toNat) (0 : Int))) * (1000000000 : Int))) + (IntKind.u64.wrap (u0.getD ((IntKind.i64.wrap ((v1.length : Int) - (1 : Int))).toNat) (0 : Int))))).tdiv (IntKind.u64.wrap (v1.getD (IntKind.i64.wrap ((v1.length : Int) - (1 : Int))).toNat (0 : Int)))), (IntKind.u64.wrap ((IntKind.u64.wrap ((IntKind.u64.wrap (u0.getD ((v1.length : Int).toNat) (0 : Int))) * (1000000000 : Int))) + (IntKind.u64.wrap (u0.getD ((IntKind.i64.wrap ((v1.length : Int) - (1 : Int))).toNat) (0 : Int))))).tmod (IntKind.u64.wrap (v1.getD (IntKind.i64.wrap ((v1.length : Int) - (1 : Int))).toNat (0 : Int))), ())).bind fun y1 =>
                cond (Ex.same y1.1 (Ex.exit 0))
                  ((n_subtract y1.2.1 y1.2.2.1 y1.2.2.2.2.2.1).bind fun r2 =>
                  cond (r2.1.1)
                    ((n_restore r2.2.1 y1.2.2.1).bind fun r3 =>
                    some ((IntKind.u32.wrap (IntKind.u64.wrap (y1.2.2.2.2.2.1 - (1 : Int))), ()), r3.2.1, ()))
                    (some ((IntKind.u32.wrap (y1.2.2.2.2.2.1), ()), r2.2.1, ())))
                  (none))))))))
def n_nat_quoRem_s7 (x : (List Int) × (List Int) × (List Int) × (List Int) × Unit) : Option (Ex × ((List Int) × (List Int) × (List Int) × (List Int) × Unit)) :=
  let a0 := x.1
  let scale6 := x.2.1
  let u7 := x.2.2.1
  let v8 := x.2.2.2.1
  cond (decide ((u7.length : Int) ≤ (a0.length : Int)))
    (grd (decide (u7.length + ([0] : List Int).length ≤ maxN)) (some (Ex.normal, (a0, scale6, u7 ++ ([0] : List Int), v8, ()))))
    (some (Ex.exit 1, (a0, scale6, u7, v8, ())))
def n_nat_quoRem_s11 (x : (List Int) × (List Int) × (List Int) × (List Int) × Int × Unit) : Option (Ex × ((List Int) × (List Int) × (List Int) × (List Int) × Int × Unit)) :=
  let scale6 := x.1
  let u7 := x.2.1
  let v8 := x.2.2.1
  let q9 := x.2.2.2.1
  let j10 := x.2.2.2.2.1
  cond (decide (j10 ≥ (0 : Int)))
    (grd (decide (0 ≤ j10) && decide (j10 ≤ IntKind.i64.wrap ((IntKind.i64.wrap (j10 + (v8.length : Int))) + (1 : Int))) && decide (IntKind.i64.wrap ((IntKind.i64.wrap (j10 + (v8.length : Int))) + (1 : Int)) ≤ u7.length)) (
      (n_reduce ((u7.drop j10.toNat).take ((IntKind.i64.wrap ((IntKind.i64.wrap (j10 + (v8.length : Int))) + (1 : Int))).toNat - j10.toNat)) v8).bind fun r1 =>
      grd (decide (0 ≤ j10) && decide (j10 < q9.length)) (grd (decide (j10.toNat < q9.length)) (some (Ex.normal, (scale6, u7.take j10.toNat ++ r1.2.1 ++ u7.drop (j10.toNat + ((IntKind.i64.wrap ((IntKind.i64.wrap (j10 + (v8.length : Int))) + (1 : Int))).toNat - j10.toNat)), v8, q9.set j10.toNat r1.1.1, IntKind.i64.wrap (j10 - (1 : Int)), ()))))))
    (some (Ex.exit 3, (scale6, u7, v8, q9, j10, ())))
def n_nat_quoRem (a0 : List Int) (b1 : List Int) : Option (((List Int) × (List Int) × Unit) × Unit) :=
  (n_nat_cmp a0 b1).bind fun r1 =>
  cond (decide (r1.1.1 < (0 : Int)))
    (some ((([] : List Int), a0, ()), ()))
    (cond ((b1.length : Int) == (1 : Int))
      (grd (decide (0 ≤ (0 : Int)) && decide ((0 : Int) < b1.length)) (
        (n_nat_quoLimb a0 (b1.getD (0 : Int).toNat (0 : Int))).bind fun r2 =>
        some ((r2.1.1, r2.1.2.1, ()), ())))
      (grd (decide (0 ≤ IntKind.i64.wrap ((b1.length : Int) - (1 : Int))) && decide (IntKind.i64.wrap ((b1.length : Int) - (1 : Int)) < b1.length)) (
        grd ((IntKind.u64.wrap ((IntKind.u64.wrap (b1.getD (IntKind.i64.wrap ((b1.length : Int) - (1 : Int))).toNat (0 : Int))) + (1 : Int))) != 0) (
          (n_nat_mul_r a0 ([IntKind.u32.wrap (IntKind.u64.wrap ((1000000000 : Int).tdiv (IntKind.u64.wrap ((IntKind.u64.wrap (b1.getD (IntKind.i64.wrap ((b1.length : Int) - (1 : Int))).toNat (0 : Int))) + (1 : Int)))))] : List Int)).bind fun r3 =>
          (n_nat_mul_r b1 ([IntKind.u32.wrap (IntKind.u64.wrap ((1000000000 : Int).tdiv (IntKind.u64.wrap ((IntKind.u64.wrap (b1.getD (IntKind.i64.wrap ((b1.length : Int) - (1 : Int))).toNat (0 : Int))) + (1 : Int)))))] : List Int)).bind fun r4 =>
          (loopO n_nat_quoRem_s7 (a0, ([IntKind.u32.wrap (IntKind.u64.wrap ((1000000000 : Int).tdiv (IntKind.u64.wrap ((IntKind.u64.wrap (b1.getD (IntKind.i64.wrap ((b1.length : Int) - (1 : Int))).toNat (0 : Int))) + (1 : Int)))))] : List Int), r3.1.1, r4.1.1, ())).bind fun y5 =>
          cond (Ex.same y5.1 (Ex.exit 1))
            (grd (decide (0 ≤ IntKind.i64.wrap ((y5.2.2.2.1.length : Int) - (y5.2.2.2.2.1.length : Int))) && decide (IntKind.i64.wrap ((y5.2.2.2.1.length : Int) - (y5.2.2.2.2.1.length : Int)) ≤ IntKind.i64.wrap ((y5.2.2.2.1.length : Int) - (y5.2.2.2.2.1.length : Int))) && decide (IntKind.i64.wrap ((y5.2.2.2.1.length : Int) - (y5.2.2.2.2.1.length : Int)) ≤ maxN)) (
              (loopO n_nat_quoRem_s11 (y5.2.2.1, y5.2.2.2.1, y5.2.2.2.2.1, List.replicate (IntKind.i64.wrap ((y5.2.2.2.1.length : Int) - (y5.2.2.2.2.1.length : Int))).toNat (0 : Int), IntKind.i64.wrap (((List.replicate (IntKind.i64.wrap ((y5.2.2.2.1.length : Int) - (y5.2.2.2.2.1.length : Int))).toNat (0 : Int)).length : Int) - (1 : Int)), ())).bind fun y6 =>
              cond (Ex.same y6.1 (Ex.exit 3))
                ((n_nat_trim y6.2.2.1).bind fun r7 =>
                grd (decide (0 ≤ (0 : Int)) && decide ((0 : Int) < y6.2.1.length)) (
                  (n_nat_quoLimb r7.1.1 (y6.2.1.getD (0 : Int).toNat (0 : Int))).bind fun r8 =>
                  (n_nat_trim y6.2.2.2.2.1).bind fun r9 =>
                  some ((r9.1.1, r8.1.1, ()), ())))
                (none)))
            (none)))))
def n_gcd_s1 (x : (List Int) × (List Int) × Unit) : Option (Ex × ((List Int) × (List Int) × Unit)) :=
  let a0 := x.1
  let b1 := x.2.1
  cond (decide ((b1.length : Int) > (0 : Int)))
    ((n_nat_quoRem a0 b1).bind fun r1 =>
    some (Ex.normal, (b1, r1.1.2.1, ())))
    (some (Ex.exit 0, (a0, b1, ())))
def n_gcd (a0 : List Int) (b1 : List Int) : Option (((List Int) × Unit) × Unit) :=
  (loopO n_gcd_s1 (a0, b1, ())).bind fun y1 =>
  cond (Ex.same y1.1 (Ex.exit 0))
    (some ((y1.2.1, ()), ()))
    (none)
def n_nat_one (a0 : List Int) : Option ((Bool × Unit) × Unit) :=
  cond ((a0.length : Int) == (1 : Int))
    (grd (decide (0 ≤ (0 : Int)) && decide ((0 : Int) < a0.length)) (some (((a0.getD (0 : Int).toNat (0 : Int)) == (1 : Int), ()), ())))
    (some ((false, ()), ()))
def n_read (a0 : List UInt8) : Option ((Rt × Bool × Unit) × Unit) :=
  (strings_CutPrefix a0 ([45] : List UInt8)).bind fun r1 =>
  (strings_Cut r1.1.1 ([47] : List UInt8)).bind fun r2 =>
  (n_numeral r2.1.1).bind fun r3 =>
  cond (!r3.1.1)
    (some (((false, ([] : List Int), ([] : List Int)), false, ()), ()))
    (cond (r2.1.1 == ([48] : List UInt8))
      (cond (r1.1.2.1)
        (some (((false, ([] : List Int), ([] : List Int)), false, ()), ()))
        (cond (r2.1.2.2.1)
          (some (((false, ([] : List Int), ([] : List Int)), false, ()), ()))
          ((n_natOf r2.1.1).bind fun r4 =>
          cond (!r2.1.2.2.1)
            (some (((r1.1.2.1, r4.1.1, ([1] : List Int)), true, ()), ()))
            ((n_numeral r2.1.2.1).bind fun r5 =>
            cond (!r5.1.1)
              (some (((false, ([] : List Int), ([] : List Int)), false, ()), ()))
              (cond (r2.1.2.1 == ([48] : List UInt8))
                (some (((false, ([] : List Int), ([] : List Int)), false, ()), ()))
                (cond (r2.1.2.1 == ([49] : List UInt8))
                  (some (((false, ([] : List Int), ([] : List Int)), false, ()), ()))
                  ((n_natOf r2.1.2.1).bind fun r6 =>
                  (n_gcd r4.1.1 r6.1.1).bind fun r7 =>
                  (n_nat_one r7.1.1).bind fun r8 =>
                  some (((r1.1.2.1, r4.1.1, r6.1.1), r8.1.1, ()), ()))))))))
      ((n_natOf r2.1.1).bind fun r9 =>
      cond (!r2.1.2.2.1)
        (some (((r1.1.2.1, r9.1.1, ([1] : List Int)), true, ()), ()))
        ((n_numeral r2.1.2.1).bind fun r10 =>
        cond (!r10.1.1)
          (some (((false, ([] : List Int), ([] : List Int)), false, ()), ()))
          (cond (r2.1.2.1 == ([48] : List UInt8))
            (some (((false, ([] : List Int), ([] : List Int)), false, ()), ()))
            (cond (r2.1.2.1 == ([49] : List UInt8))
              (some (((false, ([] : List Int), ([] : List Int)), false, ()), ()))
              ((n_natOf r2.1.2.1).bind fun r11 =>
              (n_gcd r9.1.1 r11.1.1).bind fun r12 =>
              (n_nat_one r12.1.1).bind fun r13 =>
              some (((r1.1.2.1, r9.1.1, r11.1.1), r13.1.1, ()), ())))))))
def n_Valid (a0 : List UInt8) : Option ((Bool × Unit) × Unit) :=
  (n_smallOf a0).bind fun r1 =>
  cond (r1.1.2.1)
    (some ((true, ()), ()))
    ((n_read a0).bind fun r2 =>
    some ((r2.1.2.1, ()), ()))
def n_Sign (a0 : List UInt8) : Option ((Int × Unit) × Unit) :=
  (n_Valid a0).bind fun r1 =>
  cond (!r1.1.1)
    (some ((0, ()), ()))
    (cond (a0 == ([48] : List UInt8))
      (some ((0, ()), ()))
      (grd (decide (0 ≤ (0 : Int)) && decide ((0 : Int) < a0.length)) (
        cond (((a0.getD (0 : Int).toNat 0).toNat : Int) == (45 : Int))
          (some ((-1, ()), ()))
          (some ((1, ()), ())))))
def n_Neg (a0 : List UInt8) : Option (((List UInt8) × Unit) × Unit) :=
  (n_Sign a0).bind fun r1 =>
  cond (decide (r1.1.1 < (0 : Int)))
    (grd (decide (0 ≤ (1 : Int)) && decide ((1 : Int) ≤ a0.length)) (some ((a0.drop (1 : Int).toNat, ()), ())))
    ((n_Sign a0).bind fun r2 =>
    cond (decide (r2.1.1 > (0 : Int)))
      (grd (decide (([45] : List UInt8).length + a0.length ≤ maxS)) (some ((([45] : List UInt8) ++ a0, ()), ())))
      (cond (a0 == ([48] : List UInt8))
        (some ((a0, ()), ()))
        (some ((([] : List UInt8), ()), ()))))
def n_fraction (n0 : Int) (d1 : Int) : Option (((List UInt8) × Unit) × Unit) :=
  cond (decide (d1 < (0 : Int)))
    ((n_divisor (maxA (IntKind.i64.wrap (0 - n0)) (IntKind.i64.wrap (0 - (IntKind.i64.wrap (0 - n0))))) (IntKind.i64.wrap (0 - d1))).bind fun r1 =>
    grd (r1.1.1 != 0) (
      grd (r1.1.1 != 0) (
        (strconv_FormatInt (IntKind.i64.wrap ((IntKind.i64.wrap (0 - n0)).tdiv r1.1.1)) 10).bind fun r2 =>
        cond (decide ((IntKind.i64.wrap ((IntKind.i64.wrap (0 - d1)).tdiv r1.1.1)) > (1 : Int)))
          ((strconv_FormatInt (IntKind.i64.wrap ((IntKind.i64.wrap (0 - d1)).tdiv r1.1.1)) 10).bind fun r3 =>
          grd (decide (([47] : List UInt8).length + r3.1.1.length ≤ maxS)) (grd (decide (r2.1.1.length + (([47] : List UInt8) ++ r3.1.1).length ≤ maxS)) (some ((r2.1.1 ++ (([47] : List UInt8) ++ r3.1.1), ()), ()))))
          (some ((r2.1.1, ()), ())))))
    ((n_divisor (maxA n0 (IntKind.i64.wrap (0 - n0))) d1).bind fun r4 =>
    grd (r4.1.1 != 0) (
      grd (r4.1.1 != 0) (
        (strconv_FormatInt (IntKind.i64.wrap (n0.tdiv r4.1.1)) 10).bind fun r5 =>
        cond (decide ((IntKind.i64.wrap (d1.tdiv r4.1.1)) > (1 : Int)))
          ((strconv_FormatInt (IntKind.i64.wrap (d1.tdiv r4.1.1)) 10).bind fun r6 =>
          grd (decide (([47] : List UInt8).length + r6.1.1.length ≤ maxS)) (grd (decide (r5.1.1.length + (([47] : List UInt8) ++ r6.1.1).length ≤ maxS)) (some ((r5.1.1 ++ (([47] : List UInt8) ++ r6.1.1), ()), ()))))
          (some ((r5.1.1, ()), ())))))
def n_Add_1 (x0 : Sml) (y1 : Sml) : Option (((List UInt8) × Unit) × Unit) :=
  (n_fraction (IntKind.i64.wrap ((IntKind.i64.wrap (x0.1 * y1.2)) + (IntKind.i64.wrap (y1.1 * x0.2)))) (IntKind.i64.wrap (x0.2 * y1.2))).bind fun r1 =>
  some ((r1.1.1, ()), ())
def n_nat_mul_s7 (x : (List Int) × (List Int) × Int × Int × Int × (List Int) × Int × Int × (List Int) × Int × Int × Unit) : Option (Ex × ((List Int) × (List Int) × Int × Int × Int × (List Int) × Int × Int × (List Int) × Int × Int × Unit)) :=
  let b1 := x.1
  let out5 := x.2.1
  let i6 := x.2.2.1
  let x7 := x.2.2.2.1
  let carry8 := x.2.2.2.2.1
  let t18 := x.2.2.2.2.2.1
  let t19 := x.2.2.2.2.2.2.1
  let t20 := x.2.2.2.2.2.2.2.1
  let t25 := x.2.2.2.2.2.2.2.2.1
  let t26 := x.2.2.2.2.2.2.2.2.2.1
  let t27 := x.2.2.2.2.2.2.2.2.2.2.1
  cond (decide (t27 < t26))
    (grd (decide (0 ≤ t27) && decide (t27 < t25.length)) (grd (decide (0 ≤ IntKind.i64.wrap (i6 + t27)) && decide (IntKind.i64.wrap (i6 + t27) < out5.length)) (grd (decide ((IntKind.i64.wrap (i6 + t27)).toNat < out5.length)) (grd ((1000000000 : Int) != 0) (grd ((1000000000 : Int) != 0) (grd (decide (0 ≤ IntKind.i64.wrap (i6 + t27)) && decide (IntKind.i64.wrap (i6 + t27) < out5.length)) (grd (decide ((IntKind.i64.wrap (i6 + t27)).toNat < out5.length)) (some (Ex.normal, (b1, out5.set ((IntKind.i64.wrap (i6 + t27)).toNat) (IntKind.u32.wrap ((IntKind.u64.wrap ((IntKind.u64.wrap ((IntKind.u64.wrap (out5.getD ((IntKind.i64.wrap (i6 + t27)).toNat) (0 : Int))) + (IntKind.u64.wrap ((IntKind.u64.wrap (x7)) * (IntKind.u64.wrap (t25.getD t27.toNat (0 : Int))))))) + carry8)).tmod 1000000000)), i6, x7, IntKind.u64.wrap ((IntKind.u64.wrap ((IntKind.u64.wrap ((IntKind.u64.wrap (out5.getD ((IntKind.i64.wrap (i6 + t27)).toNat) (0 : Int))) + (IntKind.u64.wrap ((IntKind.u64.wrap (x7)) * (IntKind.u64.wrap (t25.getD t27.toNat (0 : Int))))))) + carry8)).tdiv 1000000000), t18, t19, t20, t25, t26, IntKind.i64.wrap (t27 + (1 : Int)), ()))))))))))
    (some (Ex.exit 2, (b1, out5, i6, x7, carry8, t18, t19, t20, t25, t26, t27, ())))
def n_nat_mul_s3 (x : (List Int) × (List Int) × (List Int) × Int × Int × Unit) : Option (Ex × ((List Int) × (List Int) × (List Int) × Int × Int × Unit)) :=
  let b1 := x.1
  let out5 := x.2.1
  let t18 := x.2.2.1
  let t19 := x.2.2.2.1
  let t20 := x.2.2.2.2.1
  cond (decide (t20 < t19))
    (grd (decide (0 ≤ t20) && decide (t20 < t18.length)) (
      (loopO n_nat_mul_s7 (b1, out5, t20, t18.getD t20.toNat (0 : Int), 0, t18, t19, t20, b1, (b1.length : Int), 0, ())).bind fun y1 =>
      cond (Ex.same y1.1 (Ex.exit 2))
        (grd (decide (0 ≤ IntKind.i64.wrap (y1.2.2.2.1 + (y1.2.1.length : Int))) && decide (IntKind.i64.wrap (y1.2.2.2.1 + (y1.2.1.length : Int)) < y1.2.2.1.length)) (grd (decide ((IntKind.i64.wrap (y1.2.2.2.1 + (y1.2.1.length : Int))).toNat < y1.2.2.1.length)) (some (Ex.normal, (y1.2.1, y1.2.2.1.set ((IntKind.i64.wrap (y1.2.2.2.1 + (y1.2.1.length : Int))).toNat) (IntKind.u32.wrap (y1.2.2.2.2.2.1)), y1.2.2.2.2.2.2.1, y1.2.2.2.2.2.2.2.1, IntKind.i64.wrap (y1.2.2.2.2.2.2.2.2.1 + (1 : Int)), ())))))
        (none)))
    (some (Ex.exit 0, (b1, out5, t18, t19, t20, ())))
def n_nat_mul (a0 : List Int) (b1 : List Int) : Option (((List Int) × Unit) × Unit) :=
  grd (decide (0 ≤ IntKind.i64.wrap ((a0.length : Int) + (b1.length : Int))) && decide (IntKind.i64.wrap ((a0.length : Int) + (b1.length : Int)) ≤ IntKind.i64.wrap ((a0.length : Int) + (b1.length : Int))) && decide (IntKind.i64.wrap ((a0.length : Int) + (b1.length : Int)) ≤ maxN)) (
    (loopO n_nat_mul_s3 (b1, List.replicate (IntKind.i64.wrap ((a0.length : Int) + (b1.length : Int))).toNat (0 : Int), a0, (a0.length : Int), 0, ())).bind fun y1 =>
    cond (Ex.same y1.1 (Ex.exit 0))
      ((n_nat_trim y1.2.2.1).bind fun r2 =>
      some ((r2.1.1, ()), ()))
      (none))
def n_nat_add_s4 (x : (List Int) × (List Int) × (List Int) × Int × Int × Int × Unit) : Option (Ex × ((List Int) × (List Int) × (List Int) × Int × Int × Int × Unit)) :=
  let a0 := x.1
  let b1 := x.2.1
  let out5 := x.2.2.1
  let carry6 := x.2.2.2.1
  let t20 := x.2.2.2.2.1
  let t21 := x.2.2.2.2.2.1
  cond (decide (t21 < t20))
    ((n_nat_at a0 t21).bind fun r1 =>
    (n_nat_at b1 t21).bind fun r2 =>
    grd ((1000000000 : Int) != 0) (grd (decide (out5.length + ([(IntKind.u32.wrap ((IntKind.u32.wrap (r1.1.1 + r2.1.1)) + carry6)).tmod 1000000000] : List Int).length ≤ maxN)) (grd ((1000000000 : Int) != 0) (some (Ex.normal, (a0, b1, out5 ++ ([(IntKind.u32.wrap ((IntKind.u32.wrap (r1.1.1 + r2.1.1)) + carry6)).tmod 1000000000] : List Int), IntKind.u32.wrap ((IntKind.u32.wrap ((IntKind.u32.wrap (r1.1.1 + r2.1.1)) + carry6)).tdiv 1000000000), t20, IntKind.i64.wrap (t21 + (1 : Int)), ()))))))
    (some (Ex.exit 0, (a0, b1, out5, carry6, t20, t21, ())))
def n_nat_add (a0 : List Int) (b1 : List Int) : Option (((List Int) × Unit) × Unit) :=
  grd (decide (0 ≤ (0 : Int)) && decide ((0 : Int) ≤ IntKind.i64.wrap ((maxA (a0.length : Int) (b1.length : Int)) + (1 : Int))) && decide (IntKind.i64.wrap ((maxA (a0.length : Int) (b1.length : Int)) + (1 : Int)) ≤ maxN)) (
    (loopO n_nat_add_s4 (a0, b1, List.replicate (0 : Int).toNat (0 : Int), 0, maxA (a0.length : Int) (b1.length : Int), 0, ())).bind fun y1 =>
    cond (Ex.same y1.1 (Ex.exit 0))
      (grd (decide (y1.2.2.2.1.length + ([y1.2.2.2.2.1] : List Int).length ≤ maxN)) (
        (n_nat_trim (y1.2.2.2.1 ++ ([y1.2.2.2.2.1] : List Int))).bind fun r2 =>
        some ((r2.1.1, ()), ())))
      (none))
def n_lowest (neg0 : Bool) (num1 : List Int) (den2 : List Int) : Option ((Rt × Unit) × Unit) :=
  (n_gcd num1 den2).bind fun r1 =>
  (n_nat_one r1.1.1).bind fun r2 =>
  cond (!r2.1.1)
    ((n_nat_quoRem num1 r1.1.1).bind fun r3 =>
    (n_nat_quoRem den2 r1.1.1).bind fun r4 =>
    some (((neg0, r3.1.1, r4.1.1), ()), ()))
    (some (((neg0, num1, den2), ()), ()))
def n_nat_sub_s4 (x : (List Int) × (List Int) × (List Int) × Int × Int × Int × Unit) : Option (Ex × ((List Int) × (List Int) × (List Int) × Int × Int × Int × Unit)) :=
  let a0 := x.1
  let b1 := x.2.1
  let out5 := x.2.2.1
  let borrow6 := x.2.2.2.1
  let t13 := x.2.2.2.2.1
  let t14 := x.2.2.2.2.2.1
  cond (decide (t14 < t13))
    (grd (decide (0 ≤ t14) && decide (t14 < a0.length)) (
      (n_nat_at b1 t14).bind fun r1 =>
      cond (decide ((IntKind.i64.wrap ((IntKind.i64.wrap ((IntKind.i64.wrap (a0.getD t14.toNat (0 : Int))) - (IntKind.i64.wrap (r1.1.1)))) - borrow6)) < (0 : Int)))
        (grd (decide (out5.length + ([IntKind.u32.wrap (IntKind.i64.wrap ((IntKind.i64.wrap ((IntKind.i64.wrap ((IntKind.i64.wrap (a0.getD t14.toNat (0 : Int))) - (IntKind.i64.wrap (r1.1.1)))) - borrow6)) + (1000000000 : Int)))] : List Int).length ≤ maxN)) (some (Ex.normal, (a0, b1, out5 ++ ([IntKind.u32.wrap (IntKind.i64.wrap ((IntKind.i64.wrap ((IntKind.i64.wrap ((IntKind.i64.wrap (a0.getD t14.toNat (0 : Int))) - (IntKind.i64.wrap (r1.1.1)))) - borrow6)) + (1000000000 : Int)))] : List Int), 1, t13, IntKind.i64.wrap (t14 + (1 : Int)), ()))))
        (grd (decide (out5.length + ([IntKind.u32.wrap (IntKind.i64.wrap ((IntKind.i64.wrap ((IntKind.i64.wrap (a0.getD t14.toNat (0 : Int))) - (IntKind.i64.wrap (r1.1.1)))) - borrow6))] : List Int).length ≤ maxN)) (some (Ex.normal, (a0, b1, out5 ++ ([IntKind.u32.wrap (IntKind.i64.wrap ((IntKind.i64.wrap ((IntKind.i64.wrap (a0.getD t14.toNat (0 : Int))) - (IntKind.i64.wrap (r1.1.1)))) - borrow6))] : List Int), 0, t13, IntKind.i64.wrap (t14 + (1 : Int)), ()))))))
    (some (Ex.exit 0, (a0, b1, out5, borrow6, t13, t14, ())))
def n_nat_sub (a0 : List Int) (b1 : List Int) : Option (((List Int) × Unit) × Unit) :=
  grd (decide (0 ≤ (0 : Int)) && decide ((0 : Int) ≤ (a0.length : Int)) && decide ((a0.length : Int) ≤ maxN)) (
    (loopO n_nat_sub_s4 (a0, b1, List.replicate (0 : Int).toNat (0 : Int), 0, (a0.length : Int), 0, ())).bind fun y1 =>
    cond (Ex.same y1.1 (Ex.exit 0))
      ((n_nat_trim y1.2.2.2.1).bind fun r2 =>
      some ((r2.1.1, ()), ()))
      (none))
def n_rat_add (x0 : Rt) (y1 : Rt) : Option ((Rt × Unit) × Unit) :=
  (n_nat_mul x0.2.1 y1.2.2).bind fun r1 =>
  (n_nat_mul y1.2.1 x0.2.2).bind fun r2 =>
  (n_nat_mul x0.2.2 y1.2.2).bind fun r3 =>
  cond (x0.1 == y1.1)
    ((n_nat_add r1.1.1 r2.1.1).bind fun r4 =>
    (n_lowest x0.1 r4.1.1 r3.1.1).bind fun r5 =>
    some (((r5.1.1.1, r5.1.1.2.1, r5.1.1.2.2), ()), ()))
    ((n_nat_cmp r1.1.1 r2.1.1).bind fun r6 =>
    cond (decide (r6.1.1 ≥ (0 : Int)))
      ((n_nat_sub r1.1.1 r2.1.1).bind fun r7 =>
      (n_lowest x0.1 r7.1.1 r3.1.1).bind fun r8 =>
      some (((r8.1.1.1, r8.1.1.2.1, r8.1.1.2.2), ()), ()))
      ((n_nat_sub r2.1.1 r1.1.1).bind fun r9 =>
      (n_lowest y1.1 r9.1.1 r3.1.1).bind fun r10 =>
      some (((r10.1.1.1, r10.1.1.2.1, r10.1.1.2.2), ()), ())))
def strings_Builder_WriteString (b0 : Unit × List Int) (s1 : List UInt8) : Option ((Int × Bool × Unit) × ((Unit × List Int) × Unit)) :=
  (strings_Builder_copyCheck ((), b0.2)).bind fun r1 =>
  grd (decide (r1.2.1.2.length + (s1.map fun c => ((c.toNat : Nat) : Int)).length ≤ maxN)) (some (((s1.length : Int), false, ()), ((), r1.2.1.2 ++ (s1.map fun c => ((c.toNat : Nat) : Int))), ()))
def n_nat_text_s6 (v : Int) (i : Nat) (x : (Unit × List Int) × Unit) : Option ((Unit × List Int) × Unit) :=
  let b3 := x.1
  (strconv_FormatUint (IntKind.u64.wrap (v)) 10).bind fun r1 =>
  grd (decide (0 ≤ (r1.1.1.length : Int)) && decide ((r1.1.1.length : Int) ≤ ([48, 48, 48, 48, 48, 48, 48, 48, 48] : List UInt8).length)) (
    (strings_Builder_WriteString ((), b3.2) (([48, 48, 48, 48, 48, 48, 48, 48, 48] : List UInt8).drop (r1.1.1.length : Int).toNat)).bind fun r2 =>
    (strings_Builder_WriteString ((), r2.2.1.2) r1.1.1).bind fun r3 =>
    some (((), r3.2.1.2), ()))
def n_nat_text_s6_M (y : (Unit × List Int) × Unit) (o : (Unit × List Int) × Unit) : (Unit × List Int) × Unit := (o.1, ())
def n_nat_text_s6_O (y : (Unit × List Int) × Unit) : (Unit × List Int) × Unit := (y.1, ())
def n_nat_text (a0 : List Int) : Option (((List UInt8) × Unit) × Unit) :=
  cond ((a0.length : Int) == (0 : Int))
    (some ((([48] : List UInt8), ()), ()))
    (grd (decide (0 ≤ IntKind.i64.wrap ((a0.length : Int) - (1 : Int))) && decide (IntKind.i64.wrap ((a0.length : Int) - (1 : Int)) < a0.length)) (
      (strconv_FormatUint (IntKind.u64.wrap (a0.getD (IntKind.i64.wrap ((a0.length : Int) - (1 : Int))).toNat (0 : Int))) 10).bind fun r1 =>
      (strings_Builder_WriteString ((), ([] : List Int)) r1.1.1).bind fun r2 =>
      grd (decide (0 ≤ IntKind.i64.wrap ((a0.length : Int) - (1 : Int))) && decide (IntKind.i64.wrap ((a0.length : Int) - (1 : Int)) ≤ a0.length)) (
        grd (decide ((a0.take (IntKind.i64.wrap ((a0.length : Int) - (1 : Int))).toNat).length ≤ maxN)) (((foldO (fun p y => (n_nat_text_s6 p.1 p.2 y).bind fun o => some (n_nat_text_s6_M y o)) (a0.take (IntKind.i64.wrap ((a0.length : Int) - (1 : Int))).toNat).zipIdx.reverse (((), r2.2.1.2), ())).bind fun y => some ((), n_nat_text_s6_O y)).bind fun y3 =>
        (strings_Builder_String ((), y3.2.1.2)).bind fun r4 =>
        some ((r4.1.1, ()), ())))))
def n_rat_text (x0 : Rt) : Option (((List UInt8) × Unit) × Unit) :=
  (n_nat_text x0.2.1).bind fun r1 =>
  cond (x0.1)
    (cond (decide ((x0.2.1.length : Int) > (0 : Int)))
      (grd (decide (([45] : List UInt8).length + r1.1.1.length ≤ maxS)) (
        (n_nat_one x0.2.2).bind fun r2 =>
        cond (!r2.1.1)
          ((n_nat_text x0.2.2).bind fun r3 =>
          grd (decide (([47] : List UInt8).length + r3.1.1.length ≤ maxS)) (grd (decide ((([45] : List UInt8) ++ r1.1.1).length + (([47] : List UInt8) ++ r3.1.1).length ≤ maxS)) (some (((([45] : List UInt8) ++ r1.1.1) ++ (([47] : List UInt8) ++ r3.1.1), ()), ()))))
          (some ((([45] : List UInt8) ++ r1.1.1, ()), ()))))
      ((n_nat_one x0.2.2).bind fun r4 =>
      cond (!r4.1.1)
        ((n_nat_text x0.2.2).bind fun r5 =>
        grd (decide (([47] : List UInt8).length + r5.1.1.length ≤ maxS)) (grd (decide (r1.1.1.length + (([47] : List UInt8) ++ r5.1.1).length ≤ maxS)) (some ((r1.1.1 ++ (([47] : List UInt8) ++ r5.1.1), ()), ()))))
        (some ((r1.1.1, ()), ()))))
    ((n_nat_one x0.2.2).bind fun r6 =>
    cond (!r6.1.1)
      ((n_nat_text x0.2.2).bind fun r7 =>
      grd (decide (([47] : List UInt8).length + r7.1.1.length ≤ maxS)) (grd (decide (r1.1.1.length + (([47] : List UInt8) ++ r7.1.1).length ≤ maxS)) (some ((r1.1.1 ++ (([47] : List UInt8) ++ r7.1.1), ()), ()))))
      (some ((r1.1.1, ()), ())))
def n_Add_2 (x0 : Rt) (y1 : Rt) : Option (((List UInt8) × Unit) × Unit) :=
  (n_rat_add (x0.1, x0.2.1, x0.2.2) (y1.1, y1.2.1, y1.2.2)).bind fun r1 =>
  (n_rat_text (r1.1.1.1, r1.1.1.2.1, r1.1.1.2.2)).bind fun r2 =>
  some ((r2.1.1, ()), ())
def n_two_n_Add_1_n_Add_2 (a0 : List UInt8) (b1 : List UInt8) (small2 : Unit) (all3 : Unit) : Option (((List UInt8) × Unit) × Unit) :=
  (n_smallOf a0).bind fun r1 =>
  (n_smallOf b1).bind fun r2 =>
  cond (r1.1.2.1)
    (cond (r2.1.2.1)
      ((n_Add_1 (r1.1.1.1, r1.1.1.2) (r2.1.1.1, r2.1.1.2)).bind fun r3 =>
      some ((r3.1.1, ()), ()))
      ((n_read a0).bind fun r4 =>
      (n_read b1).bind fun r5 =>
      cond (!r4.1.2.1)
        (some ((([] : List UInt8), ()), ()))
        (cond (!r5.1.2.1)
          (some ((([] : List UInt8), ()), ()))
          ((n_Add_2 (r4.1.1.1, r4.1.1.2.1, r4.1.1.2.2) (r5.1.1.1, r5.1.1.2.1, r5.1.1.2.2)).bind fun r6 =>
          some ((r6.1.1, ()), ())))))
    ((n_read a0).bind fun r7 =>
    (n_read b1).bind fun r8 =>
    cond (!r7.1.2.1)
      (some ((([] : List UInt8), ()), ()))
      (cond (!r8.1.2.1)
        (some ((([] : List UInt8), ()), ()))
        ((n_Add_2 (r7.1.1.1, r7.1.1.2.1, r7.1.1.2.2) (r8.1.1.1, r8.1.1.2.1, r8.1.1.2.2)).bind fun r9 =>
        some ((r9.1.1, ()), ()))))
def n_Add (a0 : List UInt8) (b1 : List UInt8) : Option (((List UInt8) × Unit) × Unit) :=
  (n_two_n_Add_1_n_Add_2 a0 b1 () ()).bind fun r1 =>
  some ((r1.1.1, ()), ())
def n_Sub (a0 : List UInt8) (b1 : List UInt8) : Option (((List UInt8) × Unit) × Unit) :=
  (n_Neg b1).bind fun r1 =>
  (n_Add a0 r1.1.1).bind fun r2 =>
  some ((r2.1.1, ()), ())
def n_Cmp (a0 : List UInt8) (b1 : List UInt8) : Option ((Int × Unit) × Unit) :=
  (n_Sub a0 b1).bind fun r1 =>
  (n_Sign r1.1.1).bind fun r2 =>
  some ((r2.1.1, ()), ())
def v_elements_s4 (x : Val × Bool × (List (List UInt8)) × Int × Int × Unit) : Option (Ex × (Val × Bool × (List (List UInt8)) × Int × Int × Unit)) :=
  let v1 := x.1
  let t2 := x.2.1
  let t13 := x.2.2.1
  let t14 := x.2.2.2.1
  let t15 := x.2.2.2.2.1
  cond (decide (t15 < t14))
    (grd (decide (0 ≤ t15) && decide (t15 < t13.length)) (
      (n_IsInt (t13.getD t15.toNat ([] : List UInt8))).bind fun r1 =>
      cond (!r1.1.1)
        (some (Ex.ret, (v1, false, t13, t14, t15, ())))
        (grd (decide (0 ≤ t15) && decide (t15 < v1.2.2.2.2.length)) (
          (n_IsInt (v1.2.2.2.2.getD t15.toNat ([] : List UInt8))).bind fun r2 =>
          cond (!r2.1.1)
            (some (Ex.ret, (v1, false, t13, t14, t15, ())))
            (grd (decide (0 ≤ t15) && decide (t15 < v1.2.2.2.2.length)) (
              cond ((v1.2.2.2.2.getD t15.toNat ([] : List UInt8)) == v1.2.2.1)
                (some (Ex.ret, (v1, false, t13, t14, t15, ())))
                (cond (decide (t15 > (0 : Int)))
                  (grd (decide (0 ≤ IntKind.i64.wrap (t15 - (1 : Int))) && decide (IntKind.i64.wrap (t15 - (1 : Int)) < v1.2.2.2.1.length)) (
                    (n_Cmp (v1.2.2.2.1.getD (IntKind.i64.wrap (t15 - (1 : Int))).toNat ([] : List UInt8)) (t13.getD t15.toNat ([] : List UInt8))).bind fun r3 =>
                    cond (decide (r3.1.1 ≥ (0 : Int)))
                      (some (Ex.ret, (v1, false, t13, t14, t15, ())))
                      (some (Ex.normal, (v1, t2, t13, t14, IntKind.i64.wrap (t15 + (1 : Int)), ())))))
                  (some (Ex.normal, (v1, t2, t13, t14, IntKind.i64.wrap (t15 + (1 : Int)), ()))))))))))
    (some (Ex.exit 0, (v1, t2, t13, t14, t15, ())))
def v_elements (v0 : Val) : Option ((Bool × Unit) × Unit) :=
  cond ((v0.2.2.2.1.length : Int) != (v0.2.2.2.2.length : Int))
    (some ((false, ()), ()))
    ((loopO v_elements_s4 (v0, false, v0.2.2.2.1, (v0.2.2.2.1.length : Int), 0, ())).bind fun y1 =>
    cond (Ex.same y1.1 (Ex.exit 0))
      (some ((true, ()), ()))
      (cond (Ex.same y1.1 Ex.ret)
        (some ((y1.2.2.1, ()), ()))
        (none)))
def v_Valid (v0 : Val) : Option ((Bool × Unit) × Unit) :=
  cond (v0.1 == (1 : Int))
    (cond (v0.2.2.1 == ([] : List UInt8))
      ((v_simple v0).bind fun r1 =>
      some ((r1.1.1, ()), ()))
      (some ((false, ()), ())))
    (cond (v0.1 == (2 : Int))
      (cond (!v0.2.1)
        ((n_IsInt v0.2.2.1).bind fun r2 =>
        cond (r2.1.1)
          ((v_simple v0).bind fun r3 =>
          some ((r3.1.1, ()), ()))
          (some ((false, ()), ())))
        (some ((false, ()), ())))
      (cond (v0.1 == (3 : Int))
        (cond (!v0.2.1)
          ((n_Valid v0.2.2.1).bind fun r4 =>
          cond (r4.1.1)
            ((v_simple v0).bind fun r5 =>
            some ((r5.1.1, ()), ()))
            (some ((false, ()), ())))
          (some ((false, ()), ())))
        (cond (v0.1 == (4 : Int))
          (cond (!v0.2.1)
            ((n_IsInt v0.2.2.1).bind fun r6 =>
            cond (r6.1.1)
              ((v_elements v0).bind fun r7 =>
              some ((r7.1.1, ()), ()))
              (some ((false, ()), ())))
            (some ((false, ()), ())))
          (some ((false, ()), ())))))
def v_array (v0 : Val) : Option ((Bool × Unit) × Unit) :=
  cond (v0.1 == (4 : Int))
    ((v_Valid v0).bind fun r1 =>
    some ((r1.1.1, ()), ()))
    (some ((false, ()), ()))
def slices_BinarySearchFunc_string_string_string_n_Cmp_s3 (x : (List (List UInt8)) × (List UInt8) × Unit × Int × Int × Int × Unit) : Option (Ex × ((List (List UInt8)) × (List UInt8) × Unit × Int × Int × Int × Unit)) :=
  let x0 := x.1
  let target1 := x.2.1
  let cmp2 := x.2.2.1
  let n8 := x.2.2.2.1
  let i9 := x.2.2.2.2.1
  let j10 := x.2.2.2.2.2.1
  cond (decide (i9 < j10))
    (grd (decide (0 ≤ (1 : Int))) (
      grd (decide (0 ≤ IntKind.i64.wrap ((IntKind.u64.wrap (IntKind.i64.wrap (i9 + j10))).fdiv (2 ^ min (1 : Int).toNat IntKind.u64.bits))) && decide (IntKind.i64.wrap ((IntKind.u64.wrap (IntKind.i64.wrap (i9 + j10))).fdiv (2 ^ min (1 : Int).toNat IntKind.u64.bits)) < x0.length)) (
        (n_Cmp (x0.getD (IntKind.i64.wrap ((IntKind.u64.wrap (IntKind.i64.wrap (i9 + j10))).fdiv (2 ^ min (1 : Int).toNat IntKind.u64.bits))).toNat ([] : List UInt8)) target1).bind fun r1 =>
        cond (decide (r1.1.1 < (0 : Int)))
          (some (Ex.normal, (x0, target1, (), n8, IntKind.i64.wrap ((IntKind.i64.wrap ((IntKind.u64.wrap (IntKind.i64.wrap (i9 + j10))).fdiv (2 ^ min (1 : Int).toNat IntKind.u64.bits))) + (1 : Int)), j10, ())))
          (some (Ex.normal, (x0, target1, (), n8, i9, IntKind.i64.wrap ((IntKind.u64.wrap (IntKind.i64.wrap (i9 + j10))).fdiv (2 ^ min (1 : Int).toNat IntKind.u64.bits)), ()))))))
    (some (Ex.exit 0, (x0, target1, (), n8, i9, j10, ())))
def slices_BinarySearchFunc_string_string_string_n_Cmp (x0 : List (List UInt8)) (target1 : List UInt8) (cmp2 : Unit) : Option ((Int × Bool × Unit) × Unit) :=
  (loopO slices_BinarySearchFunc_string_string_string_n_Cmp_s3 (x0, target1, (), (x0.length : Int), 0, (x0.length : Int), ())).bind fun y1 =>
  cond (Ex.same y1.1 (Ex.exit 0))
    (cond (decide (y1.2.2.2.2.2.1 < y1.2.2.2.2.1))
      (grd (decide (0 ≤ y1.2.2.2.2.2.1) && decide (y1.2.2.2.2.2.1 < y1.2.1.length)) (
        (n_Cmp (y1.2.1.getD y1.2.2.2.2.2.1.toNat ([] : List UInt8)) y1.2.2.1).bind fun r2 =>
        some ((y1.2.2.2.2.2.1, r2.1.1 == (0 : Int), ()), ())))
      (some ((y1.2.2.2.2.2.1, false, ()), ())))
    (none)
def v_place (a0 : Val) (index1 : List UInt8) : Option ((Int × Bool × Unit) × Unit) :=
  (slices_BinarySearchFunc_string_string_string_n_Cmp a0.2.2.2.1 index1 ()).bind fun r1 =>
  some ((r1.1.1, r1.1.2.1, ()), ())
def v_at (a0 : Val) (index1 : List UInt8) : Option (((List UInt8) × Unit) × Unit) :=
  (v_place a0 index1).bind fun r1 =>
  cond (r1.1.2.1)
    (grd (decide (0 ≤ r1.1.1) && decide (r1.1.1 < a0.2.2.2.2.length)) (some ((a0.2.2.2.2.getD r1.1.1.toNat ([] : List UInt8), ()), ())))
    (some ((a0.2.2.1, ()), ()))
def v_At (a0 : Val) (index1 : List UInt8) : Option (((List UInt8) × Unit) × Unit) :=
  (v_array a0).bind fun r1 =>
  cond (!r1.1.1)
    (some ((([] : List UInt8), ()), ()))
    ((n_IsInt index1).bind fun r2 =>
    cond (!r2.1.1)
      (some ((([] : List UInt8), ()), ()))
      ((v_at a0 index1).bind fun r3 =>
      some ((r3.1.1, ()), ())))
def slices_Equal_string_string_s4 (x : (List (List UInt8)) × (List (List UInt8)) × Bool × Int × Int × Unit) : Option (Ex × ((List (List UInt8)) × (List (List UInt8)) × Bool × Int × Int × Unit)) :=
  let s10 := x.1
  let s21 := x.2.1
  let t4 := x.2.2.1
  let t12 := x.2.2.2.1
  let t13 := x.2.2.2.2.1
  cond (decide (t13 < t12))
    (grd (decide (0 ≤ t13) && decide (t13 < s10.length)) (
      grd (decide (0 ≤ t13) && decide (t13 < s21.length)) (
        cond (!((s10.getD t13.toNat ([] : List UInt8)) == (s21.getD t13.toNat ([] : List UInt8))))
          (some (Ex.ret, (s10, s21, false, t12, t13, ())))
          (some (Ex.normal, (s10, s21, t4, t12, IntKind.i64.wrap (t13 + (1 : Int)), ()))))))
    (some (Ex.exit 0, (s10, s21, t4, t12, t13, ())))
def slices_Equal_string_string (s10 : List (List UInt8)) (s21 : List (List UInt8)) : Option ((Bool × Unit) × Unit) :=
  cond ((s10.length : Int) != (s21.length : Int))
    (some ((false, ()), ()))
    ((loopO slices_Equal_string_string_s4 (s10, s21, false, (s10.length : Int), 0, ())).bind fun y1 =>
    cond (Ex.same y1.1 (Ex.exit 0))
      (some ((true, ()), ()))
      (cond (Ex.same y1.1 Ex.ret)
        (some ((y1.2.2.2.1, ()), ()))
        (none)))
def v_Equal (a0 : Val) (b1 : Val) : Option ((Bool × Unit) × Unit) :=
  cond (a0.1 == b1.1)
    (cond (a0.2.1 == b1.2.1)
      (cond (a0.2.2.1 == b1.2.2.1)
        ((slices_Equal_string_string a0.2.2.2.1 b1.2.2.2.1).bind fun r1 =>
        cond (r1.1.1)
          ((slices_Equal_string_string a0.2.2.2.2 b1.2.2.2.2).bind fun r2 =>
          some ((r2.1.1, ()), ()))
          (some ((false, ()), ())))
        (some ((false, ()), ())))
      (some ((false, ()), ())))
    (some ((false, ()), ()))
def v_Zero (sort0 : Int) : Option ((Val × Int × Unit) × Unit) :=
  cond (sort0 == (1 : Int))
    (some (((sort0, false, ([] : List UInt8), ([] : List (List UInt8)), ([] : List (List UInt8))), 0, ()), ()))
    (cond (sort0 == (2 : Int))
      (some (((sort0, false, ([48] : List UInt8), ([] : List (List UInt8)), ([] : List (List UInt8))), 0, ()), ()))
      (cond (sort0 == (3 : Int))
        (some (((sort0, false, ([48] : List UInt8), ([] : List (List UInt8)), ([] : List (List UInt8))), 0, ()), ()))
        (cond (sort0 == (4 : Int))
          (some (((sort0, false, ([48] : List UInt8), ([] : List (List UInt8)), ([] : List (List UInt8))), 0, ()), ()))
          (some ((((0 : Int), false, ([] : List UInt8), ([] : List (List UInt8)), ([] : List (List UInt8))), 1, ()), ())))))
def v_clone (v0 : Val) : Option (((Int × Bool × (List UInt8) × (List (List UInt8)) × List (List UInt8)) × Unit) × Unit) :=
  (slices_Clone_string_string v0.2.2.2.1).bind fun r1 =>
  (slices_Clone_string_string v0.2.2.2.2).bind fun r2 =>
  some (((v0.1, v0.2.1, v0.2.2.1, r1.1.1, r2.1.1), ()), ())
def v_store (a0 : Val) (index1 : List UInt8) (num2 : List UInt8) : Option ((Val × Unit) × Unit) :=
  (v_clone a0).bind fun r1 =>
  (v_place r1.1.1 index1).bind fun r2 =>
  cond (r2.1.2.1)
    (cond (num2 == r1.1.1.2.2.1)
      ((slices_Delete_string_string r1.1.1.2.2.2.1 r2.1.1 (IntKind.i64.wrap (r2.1.1 + (1 : Int)))).bind fun r3 =>
      (slices_Delete_string_string r1.1.1.2.2.2.2 r2.1.1 (IntKind.i64.wrap (r2.1.1 + (1 : Int)))).bind fun r4 =>
      some (((r1.1.1.1, r1.1.1.2.1, r1.1.1.2.2.1, r3.2.1.take r3.1.1, r4.2.1.take r4.1.1), ()), ()))
      (cond (r2.1.2.1)
        (grd (decide (0 ≤ r2.1.1) && decide (r2.1.1 < r1.1.1.2.2.2.2.length)) (grd (decide (r2.1.1.toNat < r1.1.1.2.2.2.2.length)) (some (((r1.1.1.1, r1.1.1.2.1, r1.1.1.2.2.1, r1.1.1.2.2.2.1, r1.1.1.2.2.2.2.set r2.1.1.toNat num2), ()), ()))))
        (cond (!(num2 == r1.1.1.2.2.1))
          ((slices_Insert_string_string r1.1.1.2.2.2.1 r2.1.1 ([index1] : List (List UInt8))).bind fun r5 =>
          (slices_Insert_string_string r1.1.1.2.2.2.2 r2.1.1 ([num2] : List (List UInt8))).bind fun r6 =>
          some (((r1.1.1.1, r1.1.1.2.1, r1.1.1.2.2.1, r5.1.1, r6.1.1), ()), ()))
          (some ((r1.1.1, ()), ())))))
    (cond (r2.1.2.1)
      (grd (decide (0 ≤ r2.1.1) && decide (r2.1.1 < r1.1.1.2.2.2.2.length)) (grd (decide (r2.1.1.toNat < r1.1.1.2.2.2.2.length)) (some (((r1.1.1.1, r1.1.1.2.1, r1.1.1.2.2.1, r1.1.1.2.2.2.1, r1.1.1.2.2.2.2.set r2.1.1.toNat num2), ()), ()))))
      (cond (!(num2 == r1.1.1.2.2.1))
        ((slices_Insert_string_string r1.1.1.2.2.2.1 r2.1.1 ([index1] : List (List UInt8))).bind fun r7 =>
        (slices_Insert_string_string r1.1.1.2.2.2.2 r2.1.1 ([num2] : List (List UInt8))).bind fun r8 =>
        some (((r1.1.1.1, r1.1.1.2.1, r1.1.1.2.2.1, r7.1.1, r8.1.1), ()), ()))
        (some ((r1.1.1, ()), ()))))
def v_Store (a0 : Val) (index1 : List UInt8) (num2 : List UInt8) : Option ((Val × Int × Unit) × Unit) :=
  (v_array a0).bind fun r1 =>
  cond (!r1.1.1)
    (some ((((0 : Int), false, ([] : List UInt8), ([] : List (List UInt8)), ([] : List (List UInt8))), 1, ()), ()))
    ((n_IsInt index1).bind fun r2 =>
    cond (!r2.1.1)
      (some ((((0 : Int), false, ([] : List UInt8), ([] : List (List UInt8)), ([] : List (List UInt8))), 1, ()), ()))
      ((n_IsInt num2).bind fun r3 =>
      cond (!r3.1.1)
        (some ((((0 : Int), false, ([] : List UInt8), ([] : List (List UInt8)), ([] : List (List UInt8))), 1, ()), ()))
        ((v_store a0 index1 num2).bind fun r4 =>
        some ((r4.1.1, 0, ()), ()))))
def r_Num1 (sort0 : Int) (num1 : List UInt8) : Option (((List Nod) × Unit) × Unit) :=
  some ((([(3, sort0, ([] : List UInt8), num1, (0 : Int))] : List Nod), ()), ())
def r_Join_s4 (x : (List (List Nod)) × (List Nod) × Int × Unit) : Option (Ex × ((List (List Nod)) × (List Nod) × Int × Unit)) :=
  let kids1 := x.1
  let t5 := x.2.1
  let i6 := x.2.2.1
  cond (decide (i6 < (kids1.length : Int)))
    (grd (decide (0 ≤ i6) && decide (i6 < kids1.length)) (grd (decide (t5.length + (kids1.getD i6.toNat ([] : List Nod)).length ≤ maxN)) (some (Ex.normal, (kids1, t5 ++ (kids1.getD i6.toNat ([] : List Nod)), IntKind.i64.wrap (i6 + (1 : Int)), ())))))
    (some (Ex.exit 0, (kids1, t5, i6, ())))
def r_Join (n0 : Nod) (kids1 : List (List Nod)) : Option (((List Nod) × Unit) × Unit) :=
  (loopO r_Join_s4 (kids1, ([(n0.1, n0.2.1, n0.2.2.1, n0.2.2.2.1, (kids1.length : Int))] : List Nod), 0, ())).bind fun y1 =>
  cond (Ex.same y1.1 (Ex.exit 0))
    (some ((y1.2.2.1, ()), ()))
    (none)
def v_bindings_s3 (x : (List (List UInt8 × Val)) × Bool × (List (List UInt8 × Val)) × (List Bind) × Int × Int × Unit) : Option (Ex × ((List (List UInt8 × Val)) × Bool × (List (List UInt8 × Val)) × (List Bind) × Int × Int × Unit)) :=
  let t2 := x.1
  let t3 := x.2.1
  let out4 := x.2.2.1
  let t10 := x.2.2.2.1
  let t11 := x.2.2.2.2.1
  let t12 := x.2.2.2.2.2.1
  cond (decide (t12 < t11))
    (grd (decide (0 ≤ t12) && decide (t12 < t10.length)) (
      (v_Valid ((t10.getD t12.toNat zBind).2)).bind fun r1 =>
      cond (!r1.1.1)
        (some (Ex.ret, (([] : List (List UInt8 × Val)), false, out4, t10, t11, t12, ())))
        (cond (!((lookS ((t10.getD t12.toNat zBind).1) out4).isSome))
          (some (Ex.normal, (t2, t3, putS ((t10.getD t12.toNat zBind).1) ((t10.getD t12.toNat zBind).2) out4, t10, t11, IntKind.i64.wrap (t12 + (1 : Int)), ())))
          (some (Ex.normal, (t2, t3, out4, t10, t11, IntKind.i64.wrap (t12 + (1 : Int)), ()))))))
    (some (Ex.exit 0, (t2, t3, out4, t10, t11, t12, ())))
def v_bindings (env0 : List Bind) : Option (((List (List UInt8 × Val)) × Bool × Unit) × Unit) :=
  (loopO v_bindings_s3 (([] : List (List UInt8 × Val)), false, ([] : List (List UInt8 × Val)), env0, (env0.length : Int), 0, ())).bind fun y1 =>
  cond (Ex.same y1.1 (Ex.exit 0))
    (some ((y1.2.2.2.1, true, ()), ()))
    (cond (Ex.same y1.1 Ex.ret)
      (some ((y1.2.1, y1.2.2.1, ()), ()))
      (none))
def v_allValid_1 (v0 : Val) : Option ((Bool × Unit) × Unit) :=
  (v_Valid v0).bind fun r1 =>
  some ((!r1.1.1, ()), ())
def slices_IndexFunc_Value_Value_v_allValid_1_s2 (x : (List Val) × Unit × Int × Int × Int × Unit) : Option (Ex × ((List Val) × Unit × Int × Int × Int × Unit)) :=
  let s0 := x.1
  let f1 := x.2.1
  let t4 := x.2.2.1
  let t7 := x.2.2.2.1
  let t8 := x.2.2.2.2.1
  cond (decide (t8 < t7))
    (grd (decide (0 ≤ t8) && decide (t8 < s0.length)) (
      (v_allValid_1 (s0.getD t8.toNat zVal)).bind fun r1 =>
      cond (r1.1.1)
        (some (Ex.ret, (s0, (), t8, t7, t8, ())))
        (some (Ex.normal, (s0, (), t4, t7, IntKind.i64.wrap (t8 + (1 : Int)), ())))))
    (some (Ex.exit 0, (s0, (), t4, t7, t8, ())))
def slices_IndexFunc_Value_Value_v_allValid_1 (s0 : List Val) (f1 : Unit) : Option ((Int × Unit) × Unit) :=
  (loopO slices_IndexFunc_Value_Value_v_allValid_1_s2 (s0, (), 0, (s0.length : Int), 0, ())).bind fun y1 =>
  cond (Ex.same y1.1 (Ex.exit 0))
    (some ((-1, ()), ()))
    (cond (Ex.same y1.1 Ex.ret)
      (some ((y1.2.2.2.1, ()), ()))
      (none))
def slices_ContainsFunc_Value_Value_v_allValid_1 (s0 : List Val) (f1 : Unit) : Option ((Bool × Unit) × Unit) :=
  (slices_IndexFunc_Value_Value_v_allValid_1 s0 ()).bind fun r1 =>
  some ((decide (r1.1.1 ≥ (0 : Int)), ()), ())
def v_allValid (l0 : List Val) : Option ((Bool × Unit) × Unit) :=
  (slices_ContainsFunc_Value_Value_v_allValid_1 l0 ()).bind fun r1 =>
  some ((!r1.1.1, ()), ())
def v_meanings_1 (l0 : List Val) : Option ((Bool × Unit) × Unit) :=
  (v_allValid l0).bind fun r1 =>
  some ((!r1.1.1, ()), ())
def slices_IndexFunc_Value_Value_v_meanings_1_s2 (x : (List (List Val)) × Unit × Int × Int × Int × Unit) : Option (Ex × ((List (List Val)) × Unit × Int × Int × Int × Unit)) :=
  let s0 := x.1
  let f1 := x.2.1
  let t4 := x.2.2.1
  let t7 := x.2.2.2.1
  let t8 := x.2.2.2.2.1
  cond (decide (t8 < t7))
    (grd (decide (0 ≤ t8) && decide (t8 < s0.length)) (
      (v_meanings_1 (s0.getD t8.toNat ([] : List Val))).bind fun r1 =>
      cond (r1.1.1)
        (some (Ex.ret, (s0, (), t8, t7, t8, ())))
        (some (Ex.normal, (s0, (), t4, t7, IntKind.i64.wrap (t8 + (1 : Int)), ())))))
    (some (Ex.exit 0, (s0, (), t4, t7, t8, ())))
def slices_IndexFunc_Value_Value_v_meanings_1 (s0 : List (List Val)) (f1 : Unit) : Option ((Int × Unit) × Unit) :=
  (loopO slices_IndexFunc_Value_Value_v_meanings_1_s2 (s0, (), 0, (s0.length : Int), 0, ())).bind fun y1 =>
  cond (Ex.same y1.1 (Ex.exit 0))
    (some ((-1, ()), ()))
    (cond (Ex.same y1.1 Ex.ret)
      (some ((y1.2.2.2.1, ()), ()))
      (none))
def slices_ContainsFunc_Value_Value_v_meanings_1 (s0 : List (List Val)) (f1 : Unit) : Option ((Bool × Unit) × Unit) :=
  (slices_IndexFunc_Value_Value_v_meanings_1 s0 ()).bind fun r1 =>
  some ((decide (r1.1.1 ≥ (0 : Int)), ()), ())
def v_meanings_s3 (x : (List (List UInt8 × Interp)) × Bool × (List (List UInt8 × Interp)) × (List Interp) × Int × Int × Unit) : Option (Ex × ((List (List UInt8 × Interp)) × Bool × (List (List UInt8 × Interp)) × (List Interp) × Int × Int × Unit)) :=
  let t2 := x.1
  let t3 := x.2.1
  let out4 := x.2.2.1
  let t10 := x.2.2.2.1
  let t11 := x.2.2.2.2.1
  let t12 := x.2.2.2.2.2.1
  cond (decide (t12 < t11))
    (grd (decide (0 ≤ t12) && decide (t12 < t10.length)) (
      cond (((((t10.getD t12.toNat zInterp).2).1).length : Int) != (((((t10.getD t12.toNat zInterp).2).2).1).length : Int))
        (some (Ex.ret, (([] : List (List UInt8 × Interp)), false, out4, t10, t11, t12, ())))
        ((v_allValid ((((t10.getD t12.toNat zInterp).2).2).1)).bind fun r1 =>
        cond (!r1.1.1)
          (some (Ex.ret, (([] : List (List UInt8 × Interp)), false, out4, t10, t11, t12, ())))
          ((v_Valid ((((t10.getD t12.toNat zInterp).2).2).2)).bind fun r2 =>
          cond (!r2.1.1)
            (some (Ex.ret, (([] : List (List UInt8 × Interp)), false, out4, t10, t11, t12, ())))
            ((slices_ContainsFunc_Value_Value_v_meanings_1 (((t10.getD t12.toNat zInterp).2).1) ()).bind fun r3 =>
            cond (r3.1.1)
              (some (Ex.ret, (([] : List (List UInt8 × Interp)), false, out4, t10, t11, t12, ())))
              (cond (!((lookS ((t10.getD t12.toNat zInterp).1) out4).isSome))
                (some (Ex.normal, (t2, t3, putS ((t10.getD t12.toNat zInterp).1) (t10.getD t12.toNat zInterp) out4, t10, t11, IntKind.i64.wrap (t12 + (1 : Int)), ())))
                (some (Ex.normal, (t2, t3, out4, t10, t11, IntKind.i64.wrap (t12 + (1 : Int)), ())))))))))
    (some (Ex.exit 0, (t2, t3, out4, t10, t11, t12, ())))
def v_meanings (fns0 : List Interp) : Option (((List (List UInt8 × Interp)) × Bool × Unit) × Unit) :=
  (loopO v_meanings_s3 (([] : List (List UInt8 × Interp)), false, ([] : List (List UInt8 × Interp)), fns0, (fns0.length : Int), 0, ())).bind fun y1 =>
  cond (Ex.same y1.1 (Ex.exit 0))
    (some ((y1.2.2.2.1, true, ()), ()))
    (cond (Ex.same y1.1 Ex.ret)
      (some ((y1.2.1, y1.2.2.1, ()), ()))
      (none))
def t_numbered (sort0 : Int) (a1 : List UInt8) : Option ((Bool × Unit) × Unit) :=
  cond (sort0 == (2 : Int))
    ((n_IsInt a1).bind fun r1 =>
    cond (r1.1.1)
      (some ((true, ()), ()))
      (cond (sort0 == (3 : Int))
        ((n_Valid a1).bind fun r2 =>
        some ((r2.1.1, ()), ()))
        (some ((false, ()), ()))))
    (cond (sort0 == (3 : Int))
      ((n_Valid a1).bind fun r3 =>
      some ((r3.1.1, ()), ()))
      (some ((false, ()), ())))
def t_isSort (s0 : Int) : Option ((Bool × Unit) × Unit) :=
  cond (decide (s0 ≥ (1 : Int)))
    (some ((decide (s0 ≤ (4 : Int)), ()), ()))
    (some ((false, ()), ()))
def t_letter (c0 : Int) : Option ((Bool × Unit) × Unit) :=
  cond (decide (c0 ≥ (97 : Int)))
    (cond (decide (c0 ≤ (122 : Int)))
      (some ((true, ()), ()))
      (cond (decide (c0 ≥ (65 : Int)))
        (cond (decide (c0 ≤ (90 : Int)))
          (some ((true, ()), ()))
          (cond (c0 == (95 : Int))
            (some ((true, ()), ()))
            (cond (c0 == (36 : Int))
              (some ((true, ()), ()))
              (some ((c0 == (33 : Int), ()), ())))))
        (cond (c0 == (95 : Int))
          (some ((true, ()), ()))
          (cond (c0 == (36 : Int))
            (some ((true, ()), ()))
            (some ((c0 == (33 : Int), ()), ()))))))
    (cond (decide (c0 ≥ (65 : Int)))
      (cond (decide (c0 ≤ (90 : Int)))
        (some ((true, ()), ()))
        (cond (c0 == (95 : Int))
          (some ((true, ()), ()))
          (cond (c0 == (36 : Int))
            (some ((true, ()), ()))
            (some ((c0 == (33 : Int), ()), ())))))
      (cond (c0 == (95 : Int))
        (some ((true, ()), ()))
        (cond (c0 == (36 : Int))
          (some ((true, ()), ()))
          (some ((c0 == (33 : Int), ()), ())))))
def t_word (s0 : List UInt8) : Option ((Bool × Unit) × Unit) :=
  cond (s0 == ([97, 110, 100] : List UInt8))
    (some ((true, ()), ()))
    (cond (s0 == ([111, 114] : List UInt8))
      (some ((true, ()), ()))
      (cond (s0 == ([110, 111, 116] : List UInt8))
        (some ((true, ()), ()))
        (cond (s0 == ([105, 116, 101] : List UInt8))
          (some ((true, ()), ()))
          (cond (s0 == ([116, 114, 117, 101] : List UInt8))
            (some ((true, ()), ()))
            (cond (s0 == ([102, 97, 108, 115, 101] : List UInt8))
              (some ((true, ()), ()))
              (cond (s0 == ([108, 101, 116] : List UInt8))
                (some ((true, ()), ()))
                (cond (s0 == ([102, 111, 114, 97, 108, 108] : List UInt8))
                  (some ((true, ()), ()))
                  (cond (s0 == ([101, 120, 105, 115, 116, 115] : List UInt8))
                    (some ((true, ()), ()))
                    (cond (s0 == ([100, 105, 115, 116, 105, 110, 99, 116] : List UInt8))
                      (some ((true, ()), ()))
                      (cond (s0 == ([100, 105, 118] : List UInt8))
                        (some ((true, ()), ()))
                        (cond (s0 == ([109, 111, 100] : List UInt8))
                          (some ((true, ()), ()))
                          (cond (s0 == ([115, 101, 108, 101, 99, 116] : List UInt8))
                            (some ((true, ()), ()))
                            (cond (s0 == ([115, 116, 111, 114, 101] : List UInt8))
                              (some ((true, ()), ()))
                              (cond (s0 == ([99, 111, 110, 115, 116] : List UInt8))
                                (some ((true, ()), ()))
                                (cond (s0 == ([66, 111, 111, 108] : List UInt8))
                                  (some ((true, ()), ()))
                                  (cond (s0 == ([73, 110, 116] : List UInt8))
                                    (some ((true, ()), ()))
                                    (cond (s0 == ([82, 101, 97, 108] : List UInt8))
                                      (some ((true, ()), ()))
                                      (cond (s0 == ([65, 114, 114, 97, 121] : List UInt8))
                                        (some ((true, ()), ()))
                                        (some ((false, ()), ()))))))))))))))))))))
def t_IsName_s4 (x : (List UInt8) × Bool × Int × Int × Unit) : Option (Ex × ((List UInt8) × Bool × Int × Int × Unit)) :=
  let s0 := x.1
  let t2 := x.2.1
  let t23 := x.2.2.1
  let t24 := x.2.2.2.1
  cond (decide (t24 < t23))
    (grd (decide (0 ≤ t24) && decide (t24 < s0.length)) (
      (t_letter ((s0.getD t24.toNat 0).toNat : Int)).bind fun r1 =>
      cond (!r1.1.1)
        (cond (decide (((s0.getD t24.toNat 0).toNat : Int) ≥ (48 : Int)))
          (cond (!(decide (((s0.getD t24.toNat 0).toNat : Int) ≤ (57 : Int))))
            (cond (((s0.getD t24.toNat 0).toNat : Int) != (46 : Int))
              (cond (((s0.getD t24.toNat 0).toNat : Int) != (64 : Int))
                (some (Ex.ret, (s0, false, t23, t24, ())))
                (some (Ex.normal, (s0, t2, t23, IntKind.i64.wrap (t24 + (1 : Int)), ()))))
              (some (Ex.normal, (s0, t2, t23, IntKind.i64.wrap (t24 + (1 : Int)), ()))))
            (some (Ex.normal, (s0, t2, t23, IntKind.i64.wrap (t24 + (1 : Int)), ()))))
          (cond (((s0.getD t24.toNat 0).toNat : Int) != (46 : Int))
            (cond (((s0.getD t24.toNat 0).toNat : Int) != (64 : Int))
              (some (Ex.ret, (s0, false, t23, t24, ())))
              (some (Ex.normal, (s0, t2, t23, IntKind.i64.wrap (t24 + (1 : Int)), ()))))
            (some (Ex.normal, (s0, t2, t23, IntKind.i64.wrap (t24 + (1 : Int)), ())))))
        (some (Ex.normal, (s0, t2, t23, IntKind.i64.wrap (t24 + (1 : Int)), ())))))
    (some (Ex.exit 0, (s0, t2, t23, t24, ())))
def t_IsName (s0 : List UInt8) : Option ((Bool × Unit) × Unit) :=
  cond (s0 == ([] : List UInt8))
    (some ((false, ()), ()))
    (cond (decide ((s0.length : Int) > (40 : Int)))
      (some ((false, ()), ()))
      (grd (decide (0 ≤ (0 : Int)) && decide ((0 : Int) < s0.length)) (
        (t_letter ((s0.getD (0 : Int).toNat 0).toNat : Int)).bind fun r1 =>
        cond (!r1.1.1)
          (some ((false, ()), ()))
          ((t_word s0).bind fun r2 =>
          cond (r2.1.1)
            (some ((false, ()), ()))
            ((loopO t_IsName_s4 (s0, false, (s0.length : Int), 0, ())).bind fun y3 =>
            cond (Ex.same y3.1 (Ex.exit 0))
              (some ((true, ()), ()))
              (cond (Ex.same y3.1 Ex.ret)
                (some ((y3.2.2.1, ()), ()))
                (none)))))))
def t_fields (n0 : Nod) : Option ((Bool × Unit) × Unit) :=
  cond (n0.1 == (3 : Int))
    (cond (n0.2.2.1 == ([] : List UInt8))
      ((t_numbered n0.2.1 n0.2.2.2.1).bind fun r1 =>
      some ((r1.1.1, ()), ()))
      (some ((false, ()), ())))
    (cond (n0.1 == (4 : Int))
      ((t_isSort n0.2.1).bind fun r2 =>
      cond (r2.1.1)
        ((t_IsName n0.2.2.1).bind fun r3 =>
        cond (r3.1.1)
          (some ((n0.2.2.2.1 == ([] : List UInt8), ()), ()))
          (some ((false, ()), ())))
        (some ((false, ()), ())))
      (cond (n0.1 == (5 : Int))
        ((t_isSort n0.2.1).bind fun r4 =>
        cond (r4.1.1)
          ((t_IsName n0.2.2.1).bind fun r5 =>
          cond (r5.1.1)
            (some ((n0.2.2.2.1 == ([] : List UInt8), ()), ()))
            (some ((false, ()), ())))
          (some ((false, ()), ())))
        (cond (n0.1 == (16 : Int))
          (cond (n0.2.1 == (0 : Int))
            (cond (n0.2.2.1 == ([] : List UInt8))
              ((n_IsInt n0.2.2.2.1).bind fun r6 =>
              cond (r6.1.1)
                ((n_Sign n0.2.2.2.1).bind fun r7 =>
                some ((decide (r7.1.1 > (0 : Int)), ()), ()))
                (some ((false, ()), ())))
              (some ((false, ()), ())))
            (some ((false, ()), ())))
          (cond (n0.1 == (17 : Int))
            (cond (n0.2.1 == (0 : Int))
              (cond (n0.2.2.1 == ([] : List UInt8))
                ((n_IsInt n0.2.2.2.1).bind fun r8 =>
                cond (r8.1.1)
                  ((n_Sign n0.2.2.2.1).bind fun r9 =>
                  some ((decide (r9.1.1 > (0 : Int)), ()), ()))
                  (some ((false, ()), ())))
                (some ((false, ()), ())))
              (some ((false, ()), ())))
            (cond (decide (n0.1 ≥ (1 : Int)))
              (cond (decide (n0.1 ≤ (20 : Int)))
                (cond (n0.2.1 == (0 : Int))
                  (cond (n0.2.2.1 == ([] : List UInt8))
                    (some ((n0.2.2.2.1 == ([] : List UInt8), ()), ()))
                    (some ((false, ()), ())))
                  (some ((false, ()), ())))
                (some ((false, ()), ())))
              (some ((false, ()), ())))))))
def t_count (op0 : Int) (n1 : Int) : Option ((Bool × Unit) × Unit) :=
  cond (op0 == (1 : Int))
    (some ((n1 == (0 : Int), ()), ()))
    (cond (op0 == (2 : Int))
      (some ((n1 == (0 : Int), ()), ()))
      (cond (op0 == (3 : Int))
        (some ((n1 == (0 : Int), ()), ()))
        (cond (op0 == (4 : Int))
          (some ((n1 == (0 : Int), ()), ()))
          (cond (op0 == (5 : Int))
            (cond (decide (n1 ≥ (1 : Int)))
              (some ((decide (n1 ≤ (40 : Int)), ()), ()))
              (some ((false, ()), ())))
            (cond (op0 == (6 : Int))
              (some ((n1 == (1 : Int), ()), ()))
              (cond (op0 == (16 : Int))
                (some ((n1 == (1 : Int), ()), ()))
                (cond (op0 == (17 : Int))
                  (some ((n1 == (1 : Int), ()), ()))
                  (cond (op0 == (20 : Int))
                    (some ((n1 == (1 : Int), ()), ()))
                    (cond (op0 == (7 : Int))
                      (some ((true, ()), ()))
                      (cond (op0 == (8 : Int))
                        (some ((true, ()), ()))
                        (cond (op0 == (14 : Int))
                          (some ((decide (n1 ≥ (1 : Int)), ()), ()))
                          (cond (op0 == (10 : Int))
                            (some ((n1 == (3 : Int), ()), ()))
                            (cond (op0 == (19 : Int))
                              (some ((n1 == (3 : Int), ()), ()))
                              (some ((n1 == (2 : Int), ()), ())))))))))))))))
def t_all_1 (x0 : Int) (a1 : Option Int) : Option ((Bool × Unit) × Unit) :=
  grd (a1.isSome) (some ((x0 != (a1.getD (0 : Int)), ()), ()))
def slices_IndexFunc_int_int_t_all_1_s2 (x : (List Int) × (Option Int) × Int × Int × Int × Unit) : Option (Ex × ((List Int) × (Option Int) × Int × Int × Int × Unit)) :=
  let s0 := x.1
  let f1 := x.2.1
  let t4 := x.2.2.1
  let t7 := x.2.2.2.1
  let t8 := x.2.2.2.2.1
  cond (decide (t8 < t7))
    (grd (decide (0 ≤ t8) && decide (t8 < s0.length)) (
      (t_all_1 (s0.getD t8.toNat (0 : Int)) f1).bind fun r1 =>
      cond (r1.1.1)
        (some (Ex.ret, (s0, f1, t8, t7, t8, ())))
        (some (Ex.normal, (s0, f1, t4, t7, IntKind.i64.wrap (t8 + (1 : Int)), ())))))
    (some (Ex.exit 0, (s0, f1, t4, t7, t8, ())))
def slices_IndexFunc_int_int_t_all_1 (s0 : List Int) (f1 : Option Int) : Option ((Int × Unit) × Unit) :=
  (loopO slices_IndexFunc_int_int_t_all_1_s2 (s0, f1, 0, (s0.length : Int), 0, ())).bind fun y1 =>
  cond (Ex.same y1.1 (Ex.exit 0))
    (some ((-1, ()), ()))
    (cond (Ex.same y1.1 Ex.ret)
      (some ((y1.2.2.2.1, ()), ()))
      (none))
def slices_ContainsFunc_int_int_t_all_1 (s0 : List Int) (f1 : Option Int) : Option ((Bool × Unit) × Unit) :=
  (slices_IndexFunc_int_int_t_all_1 s0 f1).bind fun r1 =>
  some ((decide (r1.1.1 ≥ (0 : Int)), ()), ())
def t_all (sorts0 : List Int) (s1 : Int) : Option ((Bool × Unit) × Unit) :=
  (slices_ContainsFunc_int_int_t_all_1 sorts0 (some s1)).bind fun r1 =>
  some ((!r1.1.1, ()), ())
def t_when (is0 : Bool) (sort1 : Int) : Option ((Int × Unit) × Unit) :=
  cond (is0)
    (some ((sort1, ()), ()))
    (some ((0, ()), ()))
def t_numeric (s0 : Int) : Option ((Bool × Unit) × Unit) :=
  cond (s0 == (2 : Int))
    (some ((true, ()), ()))
    (some ((s0 == (3 : Int), ()), ()))
def t_sortOf (n0 : Nod) (sorts1 : List Int) : Option ((Int × Unit) × Unit) :=
  cond (n0.1 == (3 : Int))
    (some ((n0.2.1, ()), ()))
    (cond (n0.1 == (4 : Int))
      (some ((n0.2.1, ()), ()))
      (cond (n0.1 == (5 : Int))
        (some ((n0.2.1, ()), ()))
        (cond (n0.1 == (1 : Int))
          ((t_all sorts1 1).bind fun r1 =>
          (t_when r1.1.1 1).bind fun r2 =>
          some ((r2.1.1, ()), ()))
          (cond (n0.1 == (2 : Int))
            ((t_all sorts1 1).bind fun r3 =>
            (t_when r3.1.1 1).bind fun r4 =>
            some ((r4.1.1, ()), ()))
            (cond (n0.1 == (6 : Int))
              ((t_all sorts1 1).bind fun r5 =>
              (t_when r5.1.1 1).bind fun r6 =>
              some ((r6.1.1, ()), ()))
              (cond (n0.1 == (7 : Int))
                ((t_all sorts1 1).bind fun r7 =>
                (t_when r7.1.1 1).bind fun r8 =>
                some ((r8.1.1, ()), ()))
                (cond (n0.1 == (8 : Int))
                  ((t_all sorts1 1).bind fun r9 =>
                  (t_when r9.1.1 1).bind fun r10 =>
                  some ((r10.1.1, ()), ()))
                  (cond (n0.1 == (9 : Int))
                    ((t_all sorts1 1).bind fun r11 =>
                    (t_when r11.1.1 1).bind fun r12 =>
                    some ((r12.1.1, ()), ()))
                    (cond (n0.1 == (10 : Int))
                      (grd (decide (0 ≤ (0 : Int)) && decide ((0 : Int) < sorts1.length)) (
                        cond ((sorts1.getD (0 : Int).toNat (0 : Int)) == (1 : Int))
                          (grd (decide (0 ≤ (1 : Int)) && decide ((1 : Int) < sorts1.length)) (
                            grd (decide (0 ≤ (2 : Int)) && decide ((2 : Int) < sorts1.length)) (
                              grd (decide (0 ≤ (1 : Int)) && decide ((1 : Int) < sorts1.length)) (
                                (t_when ((sorts1.getD (1 : Int).toNat (0 : Int)) == (sorts1.getD (2 : Int).toNat (0 : Int))) (sorts1.getD (1 : Int).toNat (0 : Int))).bind fun r13 =>
                                some ((r13.1.1, ()), ())))))
                          (grd (decide (0 ≤ (1 : Int)) && decide ((1 : Int) < sorts1.length)) (
                            (t_when false (sorts1.getD (1 : Int).toNat (0 : Int))).bind fun r14 =>
                            some ((r14.1.1, ()), ())))))
                      (cond (n0.1 == (11 : Int))
                        (grd (decide (0 ≤ (0 : Int)) && decide ((0 : Int) < sorts1.length)) (
                          grd (decide (0 ≤ (1 : Int)) && decide ((1 : Int) < sorts1.length)) (
                            (t_when ((sorts1.getD (0 : Int).toNat (0 : Int)) == (sorts1.getD (1 : Int).toNat (0 : Int))) 1).bind fun r15 =>
                            some ((r15.1.1, ()), ()))))
                        (cond (n0.1 == (12 : Int))
                          (grd (decide (0 ≤ (0 : Int)) && decide ((0 : Int) < sorts1.length)) (
                            (t_numeric (sorts1.getD (0 : Int).toNat (0 : Int))).bind fun r16 =>
                            cond (r16.1.1)
                              (grd (decide (0 ≤ (0 : Int)) && decide ((0 : Int) < sorts1.length)) (
                                (t_all sorts1 (sorts1.getD (0 : Int).toNat (0 : Int))).bind fun r17 =>
                                (t_when r17.1.1 1).bind fun r18 =>
                                some ((r18.1.1, ()), ())))
                              ((t_when false 1).bind fun r19 =>
                              some ((r19.1.1, ()), ()))))
                          (cond (n0.1 == (13 : Int))
                            (grd (decide (0 ≤ (0 : Int)) && decide ((0 : Int) < sorts1.length)) (
                              (t_numeric (sorts1.getD (0 : Int).toNat (0 : Int))).bind fun r20 =>
                              cond (r20.1.1)
                                (grd (decide (0 ≤ (0 : Int)) && decide ((0 : Int) < sorts1.length)) (
                                  (t_all sorts1 (sorts1.getD (0 : Int).toNat (0 : Int))).bind fun r21 =>
                                  (t_when r21.1.1 1).bind fun r22 =>
                                  some ((r22.1.1, ()), ())))
                                ((t_when false 1).bind fun r23 =>
                                some ((r23.1.1, ()), ()))))
                            (cond (n0.1 == (14 : Int))
                              (grd (decide (0 ≤ (0 : Int)) && decide ((0 : Int) < sorts1.length)) (
                                (t_numeric (sorts1.getD (0 : Int).toNat (0 : Int))).bind fun r24 =>
                                cond (r24.1.1)
                                  (grd (decide (0 ≤ (0 : Int)) && decide ((0 : Int) < sorts1.length)) (
                                    (t_all sorts1 (sorts1.getD (0 : Int).toNat (0 : Int))).bind fun r25 =>
                                    grd (decide (0 ≤ (0 : Int)) && decide ((0 : Int) < sorts1.length)) (
                                      (t_when r25.1.1 (sorts1.getD (0 : Int).toNat (0 : Int))).bind fun r26 =>
                                      some ((r26.1.1, ()), ()))))
                                  (grd (decide (0 ≤ (0 : Int)) && decide ((0 : Int) < sorts1.length)) (
                                    (t_when false (sorts1.getD (0 : Int).toNat (0 : Int))).bind fun r27 =>
                                    some ((r27.1.1, ()), ())))))
                              (cond (n0.1 == (15 : Int))
                                (grd (decide (0 ≤ (0 : Int)) && decide ((0 : Int) < sorts1.length)) (
                                  (t_numeric (sorts1.getD (0 : Int).toNat (0 : Int))).bind fun r28 =>
                                  cond (r28.1.1)
                                    (grd (decide (0 ≤ (0 : Int)) && decide ((0 : Int) < sorts1.length)) (
                                      (t_all sorts1 (sorts1.getD (0 : Int).toNat (0 : Int))).bind fun r29 =>
                                      grd (decide (0 ≤ (0 : Int)) && decide ((0 : Int) < sorts1.length)) (
                                        (t_when r29.1.1 (sorts1.getD (0 : Int).toNat (0 : Int))).bind fun r30 =>
                                        some ((r30.1.1, ()), ()))))
                                    (grd (decide (0 ≤ (0 : Int)) && decide ((0 : Int) < sorts1.length)) (
                                      (t_when false (sorts1.getD (0 : Int).toNat (0 : Int))).bind fun r31 =>
                                      some ((r31.1.1, ()), ())))))
                                (cond (n0.1 == (16 : Int))
                                  (grd (decide (0 ≤ (0 : Int)) && decide ((0 : Int) < sorts1.length)) (
                                    (t_when ((sorts1.getD (0 : Int).toNat (0 : Int)) == (2 : Int)) 2).bind fun r32 =>
                                    some ((r32.1.1, ()), ())))
                                  (cond (n0.1 == (17 : Int))
                                    (grd (decide (0 ≤ (0 : Int)) && decide ((0 : Int) < sorts1.length)) (
                                      (t_when ((sorts1.getD (0 : Int).toNat (0 : Int)) == (2 : Int)) 2).bind fun r33 =>
                                      some ((r33.1.1, ()), ())))
                                    (cond (n0.1 == (18 : Int))
                                      (grd (decide (0 ≤ (0 : Int)) && decide ((0 : Int) < sorts1.length)) (
                                        cond ((sorts1.getD (0 : Int).toNat (0 : Int)) == (4 : Int))
                                          (grd (decide (0 ≤ (1 : Int)) && decide ((1 : Int) < sorts1.length)) (
                                            (t_when ((sorts1.getD (1 : Int).toNat (0 : Int)) == (2 : Int)) 2).bind fun r34 =>
                                            some ((r34.1.1, ()), ())))
                                          ((t_when false 2).bind fun r35 =>
                                          some ((r35.1.1, ()), ()))))
                                      (cond (n0.1 == (19 : Int))
                                        (grd (decide (0 ≤ (0 : Int)) && decide ((0 : Int) < sorts1.length)) (
                                          cond ((sorts1.getD (0 : Int).toNat (0 : Int)) == (4 : Int))
                                            (grd (decide (0 ≤ (1 : Int)) && decide ((1 : Int) ≤ sorts1.length)) (
                                              (t_all (sorts1.drop (1 : Int).toNat) 2).bind fun r36 =>
                                              (t_when r36.1.1 4).bind fun r37 =>
                                              some ((r37.1.1, ()), ())))
                                            ((t_when false 4).bind fun r38 =>
                                            some ((r38.1.1, ()), ()))))
                                        (grd (decide (0 ≤ (0 : Int)) && decide ((0 : Int) < sorts1.length)) (
                                          (t_when ((sorts1.getD (0 : Int).toNat (0 : Int)) == (2 : Int)) 4).bind fun r39 =>
                                          some ((r39.1.1, ()), ())))))))))))))))))))))
def t_look_s13 (v : Int) (i : Nat) (x : ((List Nod) × List (Int × Sml)) × (Int × Sml) × (List Int) × Unit) : Option (((List Nod) × List (Int × Sml)) × (Int × Sml) × (List Int) × Unit) :=
  let v4 := x.1
  let p9 := x.2.1
  let sorts10 := x.2.2.1
  grd (decide (0 ≤ v) && decide (v < v4.2.length)) (grd (decide (v.toNat < v4.2.length)) (grd (decide (sorts10.length + ([(v4.2.getD v.toNat ((0 : Int), (0 : Int), (0 : Int))).1] : List Int).length ≤ maxN)) (grd (decide (0 ≤ v) && decide (v < v4.2.length)) (grd (decide (v.toNat < v4.2.length)) (grd (decide (0 ≤ v) && decide (v < v4.2.length)) (grd (decide (v.toNat < v4.2.length)) (some (v4, (p9.1, maxA p9.2.1 (IntKind.i64.wrap ((((v4.2.getD v.toNat ((0 : Int), (0 : Int), (0 : Int))).2).1) + (1 : Int))), ((v4.2.getD v.toNat ((0 : Int), (0 : Int), (0 : Int))).2).2), sorts10 ++ ([(v4.2.getD v.toNat ((0 : Int), (0 : Int), (0 : Int))).1] : List Int), ()))))))))
def t_look_s13_M (y : ((List Nod) × List (Int × Sml)) × (Int × Sml) × (List Int) × Unit) (o : ((List Nod) × List (Int × Sml)) × (Int × Sml) × (List Int) × Unit) : ((List Nod) × List (Int × Sml)) × (Int × Sml) × (List Int) × Unit := (o.1, o.2.1, o.2.2.1, ())
def t_look_s13_O (y : ((List Nod) × List (Int × Sml)) × (Int × Sml) × (List Int) × Unit) : ((List Nod) × List (Int × Sml)) × (Int × Sml) × (List Int) × Unit := (y.1, y.2.1, y.2.2.1, ())
def t_look_s4 (x : (List Nod) × (Option View) × Bool × ((List Nod) × List (Int × Sml)) × (List Int) × Int × Unit) : Option (Ex × ((List Nod) × (Option View) × Bool × ((List Nod) × List (Int × Sml)) × (List Int) × Int × Unit)) :=
  let t0 := x.1
  let t2 := x.2.1
  let t3 := x.2.2.1
  let v4 := x.2.2.2.1
  let roots5 := x.2.2.2.2.1
  let i6 := x.2.2.2.2.2.1
  cond (decide (i6 ≥ (0 : Int)))
    (grd (decide (0 ≤ i6) && decide (i6 < t0.length)) (
      cond (decide ((((((t0.getD i6.toNat zNod).2).2).2).2) < (0 : Int)))
        (some (Ex.ret, (t0, (none : Option View), false, v4, roots5, i6, ())))
        (cond (decide ((((((t0.getD i6.toNat zNod).2).2).2).2) > (roots5.length : Int)))
          (some (Ex.ret, (t0, (none : Option View), false, v4, roots5, i6, ())))
          ((t_fields (t0.getD i6.toNat zNod)).bind fun r1 =>
          cond (!r1.1.1)
            (some (Ex.ret, (t0, (none : Option View), false, v4, roots5, i6, ())))
            ((t_count ((t0.getD i6.toNat zNod).1) (((((t0.getD i6.toNat zNod).2).2).2).2)).bind fun r2 =>
            cond (!r2.1.1)
              (some (Ex.ret, (t0, (none : Option View), false, v4, roots5, i6, ())))
              (grd (decide (0 ≤ IntKind.i64.wrap ((roots5.length : Int) - (((((t0.getD i6.toNat zNod).2).2).2).2))) && decide (IntKind.i64.wrap ((roots5.length : Int) - (((((t0.getD i6.toNat zNod).2).2).2).2)) ≤ roots5.length)) (
                grd (decide (((roots5.drop ((IntKind.i64.wrap ((roots5.length : Int) - (((((t0.getD i6.toNat zNod).2).2).2).2))).toNat)).take (roots5.length - (IntKind.i64.wrap ((roots5.length : Int) - (((((t0.getD i6.toNat zNod).2).2).2).2))).toNat)).length ≤ maxN)) (((foldO (fun p y => (t_look_s13 p.1 p.2 y).bind fun o => some (t_look_s13_M y o)) ((roots5.drop ((IntKind.i64.wrap ((roots5.length : Int) - (((((t0.getD i6.toNat zNod).2).2).2).2))).toNat)).take (roots5.length - (IntKind.i64.wrap ((roots5.length : Int) - (((((t0.getD i6.toNat zNod).2).2).2).2))).toNat)).zipIdx.reverse (v4, ((0 : Int), 1, IntKind.i64.wrap (i6 + (1 : Int))), ([] : List Int), ())).bind fun y => some ((), t_look_s13_O y)).bind fun y3 =>
                (t_sortOf (t0.getD i6.toNat zNod) y3.2.2.2.1).bind fun r4 =>
                cond (r4.1.1 == (0 : Int))
                  (some (Ex.ret, (t0, (none : Option View), false, y3.2.1, roots5, i6, ())))
                  (cond (((t0.getD i6.toNat zNod).1) == (15 : Int))
                    (grd (decide (0 ≤ IntKind.i64.wrap (i6 + (1 : Int))) && decide (IntKind.i64.wrap (i6 + (1 : Int)) < t0.length)) (
                      cond (((t0.getD (IntKind.i64.wrap (i6 + (1 : Int))).toNat zNod).1) != (3 : Int))
                        (some (Ex.ret, (t0, (none : Option View), false, y3.2.1, roots5, i6, ())))
                        (grd (decide (0 ≤ i6) && decide (i6 < y3.2.1.2.length)) (grd (decide (i6.toNat < y3.2.1.2.length)) (grd (decide (0 ≤ IntKind.i64.wrap ((roots5.length : Int) - (((((t0.getD i6.toNat zNod).2).2).2).2))) && decide (IntKind.i64.wrap ((roots5.length : Int) - (((((t0.getD i6.toNat zNod).2).2).2).2)) ≤ roots5.length)) (grd (decide (((IntKind.i64.wrap ((roots5.length : Int) - (((((t0.getD i6.toNat zNod).2).2).2).2))).toNat) + ([i6] : List Int).length ≤ maxN)) (some (Ex.normal, (t0, t2, t3, (y3.2.1.1, y3.2.1.2.set i6.toNat (r4.1.1, y3.2.2.1.2)), roots5.take ((IntKind.i64.wrap ((roots5.length : Int) - (((((t0.getD i6.toNat zNod).2).2).2).2))).toNat) ++ ([i6] : List Int), IntKind.i64.wrap (i6 - (1 : Int)), ())))))))))
                    (grd (decide (0 ≤ i6) && decide (i6 < y3.2.1.2.length)) (grd (decide (i6.toNat < y3.2.1.2.length)) (grd (decide (0 ≤ IntKind.i64.wrap ((roots5.length : Int) - (((((t0.getD i6.toNat zNod).2).2).2).2))) && decide (IntKind.i64.wrap ((roots5.length : Int) - (((((t0.getD i6.toNat zNod).2).2).2).2)) ≤ roots5.length)) (grd (decide (((IntKind.i64.wrap ((roots5.length : Int) - (((((t0.getD i6.toNat zNod).2).2).2).2))).toNat) + ([i6] : List Int).length ≤ maxN)) (some (Ex.normal, (t0, t2, t3, (y3.2.1.1, y3.2.1.2.set i6.toNat (r4.1.1, y3.2.2.1.2)), roots5.take ((IntKind.i64.wrap ((roots5.length : Int) - (((((t0.getD i6.toNat zNod).2).2).2).2))).toNat) ++ ([i6] : List Int), IntKind.i64.wrap (i6 - (1 : Int)), ()))))))))))))))))
    (some (Ex.exit 0, (t0, t2, t3, v4, roots5, i6, ())))
def t_look (t0 : List Nod) : Option (((Option View) × Bool × Unit) × Unit) :=
  grd (decide (0 ≤ (t0.length : Int)) && decide ((t0.length : Int) ≤ (t0.length : Int)) && decide ((t0.length : Int) ≤ maxN)) (
    (loopO t_look_s4 (t0, (none : Option View), false, (t0, List.replicate (t0.length : Int).toNat ((0 : Int), (0 : Int), (0 : Int))), ([] : List Int), IntKind.i64.wrap ((t0.length : Int) - (1 : Int)), ())).bind fun y1 =>
    cond (Ex.same y1.1 (Ex.exit 0))
      (some ((some y1.2.2.2.2.1, (y1.2.2.2.2.2.1.length : Int) == (1 : Int), ()), ()))
      (cond (Ex.same y1.1 Ex.ret)
        (some ((y1.2.2.1, y1.2.2.2.1, ()), ()))
        (none)))
def t_view_large (v0 : Option View) : Option ((Bool × Unit) × Unit) :=
  grd (v0.isSome) (
    cond (decide ((((v0.getD zView).1).length : Int) > (20000 : Int)))
      (some ((true, ()), ()))
      (grd (v0.isSome) (grd (decide (0 ≤ (0 : Int)) && decide ((0 : Int) < ((v0.getD zView).2).length)) (some ((decide ((((((v0.getD zView).2).getD (0 : Int).toNat ((0 : Int), (0 : Int), (0 : Int))).2).1) > (257 : Int)), ()), ())))))
def t_view_kids_s4 (x : (Option View) × (List Int) × Int × Int × Int × Unit) : Option (Ex × ((Option View) × (List Int) × Int × Int × Int × Unit)) :=
  let v0 := x.1
  let out5 := x.2.1
  let at6 := x.2.2.1
  let t16 := x.2.2.2.1
  let t17 := x.2.2.2.2.1
  cond (decide (t17 < t16))
    (grd (decide (out5.length + ([at6] : List Int).length ≤ maxN)) (grd (v0.isSome) (grd (decide (0 ≤ at6) && decide (at6 < ((v0.getD zView).2).length)) (some (Ex.normal, (v0, out5 ++ ([at6] : List Int), ((((v0.getD zView).2).getD at6.toNat ((0 : Int), (0 : Int), (0 : Int))).2).2, t16, IntKind.i64.wrap (t17 + (1 : Int)), ()))))))
    (some (Ex.exit 0, (v0, out5, at6, t16, t17, ())))
def t_view_kids (v0 : Option View) (i1 : Int) : Option (((List Int) × Unit) × Unit) :=
  grd (v0.isSome) (
    grd (decide (0 ≤ i1) && decide (i1 < ((v0.getD zView).1).length)) (
      (loopO t_view_kids_s4 (v0, ([] : List Int), IntKind.i64.wrap (i1 + (1 : Int)), ((((((v0.getD zView).1).getD i1.toNat zNod).2).2).2).2, 0, ())).bind fun y1 =>
      cond (Ex.same y1.1 (Ex.exit 0))
        (some ((y1.2.2.1, ()), ()))
        (none)))
def t_view_signature_s3 (x : (Option View) × ((List UInt8) × Choices) × ((List UInt8) × (List Int) × Int) × (List Int) × Int × Int × Unit) : Option (Ex × ((Option View) × ((List UInt8) × Choices) × ((List UInt8) × (List Int) × Int) × (List Int) × Int × Int × Unit)) :=
  let v0 := x.1
  let t4 := x.2.1
  let f5 := x.2.2.1
  let t27 := x.2.2.2.1
  let t28 := x.2.2.2.2.1
  let t29 := x.2.2.2.2.2.1
  cond (decide (t29 < t28))
    (grd (decide (0 ≤ t29) && decide (t29 < t27.length)) (grd (v0.isSome) (grd (decide (0 ≤ t27.getD t29.toNat (0 : Int)) && decide (t27.getD t29.toNat (0 : Int) < ((v0.getD zView).2).length)) (grd (decide (f5.2.1.length + ([(((v0.getD zView).2).getD (t27.getD t29.toNat (0 : Int)).toNat ((0 : Int), (0 : Int), (0 : Int))).1] : List Int).length ≤ maxN)) (some (Ex.normal, (v0, t4, (f5.1, f5.2.1 ++ ([(((v0.getD zView).2).getD (t27.getD t29.toNat (0 : Int)).toNat ((0 : Int), (0 : Int), (0 : Int))).1] : List Int), f5.2.2), t27, t28, IntKind.i64.wrap (t29 + (1 : Int)), ())))))))
    (some (Ex.exit 0, (v0, t4, f5, t27, t28, t29, ())))
def t_view_signature (v0 : Option View) (i1 : Int) : Option ((((List UInt8) × Choices) × Unit) × Unit) :=
  grd (v0.isSome) (
    grd (decide (0 ≤ i1) && decide (i1 < ((v0.getD zView).1).length)) (
      grd (v0.isSome) (
        grd (decide (0 ≤ i1) && decide (i1 < ((v0.getD zView).1).length)) (
          (t_view_kids v0 i1).bind fun r1 =>
          (loopO t_view_signature_s3 (v0, (([] : List UInt8), ([] : List Int), (0 : Int)), ((((((v0.getD zView).1).getD i1.toNat zNod).2).2).1, ([] : List Int), ((((v0.getD zView).1).getD i1.toNat zNod).2).1), r1.1.1, (r1.1.1.length : Int), 0, ())).bind fun y2 =>
          cond (Ex.same y2.1 (Ex.exit 0))
            (some ((y2.2.2.2.1, ()), ()))
            (none)))))
def slices_Equal_int_int_s4 (x : (List Int) × (List Int) × Bool × Int × Int × Unit) : Option (Ex × ((List Int) × (List Int) × Bool × Int × Int × Unit)) :=
  let s10 := x.1
  let s21 := x.2.1
  let t4 := x.2.2.1
  let t12 := x.2.2.2.1
  let t13 := x.2.2.2.2.1
  cond (decide (t13 < t12))
    (grd (decide (0 ≤ t13) && decide (t13 < s10.length)) (
      grd (decide (0 ≤ t13) && decide (t13 < s21.length)) (
        cond ((s10.getD t13.toNat (0 : Int)) != (s21.getD t13.toNat (0 : Int)))
          (some (Ex.ret, (s10, s21, false, t12, t13, ())))
          (some (Ex.normal, (s10, s21, t4, t12, IntKind.i64.wrap (t13 + (1 : Int)), ()))))))
    (some (Ex.exit 0, (s10, s21, t4, t12, t13, ())))
def slices_Equal_int_int (s10 : List Int) (s21 : List Int) : Option ((Bool × Unit) × Unit) :=
  cond ((s10.length : Int) != (s21.length : Int))
    (some ((false, ()), ()))
    ((loopO slices_Equal_int_int_s4 (s10, s21, false, (s10.length : Int), 0, ())).bind fun y1 =>
    cond (Ex.same y1.1 (Ex.exit 0))
      (some ((true, ()), ()))
      (cond (Ex.same y1.1 Ex.ret)
        (some ((y1.2.2.2.1, ()), ()))
        (none)))
def t_same (f0 : (List UInt8) × Choices) (g1 : (List UInt8) × Choices) : Option ((Bool × Unit) × Unit) :=
  cond (f0.1 == g1.1)
    (cond (f0.2.2 == g1.2.2)
      ((slices_Equal_int_int f0.2.1 g1.2.1).bind fun r1 =>
      some ((r1.1.1, ()), ()))
      (some ((false, ()), ())))
    (some ((false, ()), ()))
def t_view_names_s5 (x : (Option View) × (List Vr) × (List ((List UInt8) × Choices)) × Bool × (List (List UInt8 × Vr)) × (List (List UInt8 × (List UInt8) × Choices)) × (List Vr) × (List ((List UInt8) × Choices)) × (List Nod) × Int × Int × Unit) : Option (Ex × ((Option View) × (List Vr) × (List ((List UInt8) × Choices)) × Bool × (List (List UInt8 × Vr)) × (List (List UInt8 × (List UInt8) × Choices)) × (List Vr) × (List ((List UInt8) × Choices)) × (List Nod) × Int × Int × Unit)) :=
  let v0 := x.1
  let t2 := x.2.1
  let t3 := x.2.2.1
  let t4 := x.2.2.2.1
  let vars5 := x.2.2.2.2.1
  let funcs6 := x.2.2.2.2.2.1
  let l7 := x.2.2.2.2.2.2.1
  let m8 := x.2.2.2.2.2.2.2.1
  let t25 := x.2.2.2.2.2.2.2.2.1
  let t26 := x.2.2.2.2.2.2.2.2.2.1
  let t27 := x.2.2.2.2.2.2.2.2.2.2.1
  cond (decide (t27 < t26))
    (grd (decide (0 ≤ t27) && decide (t27 < t25.length)) (
      cond (((t25.getD t27.toNat zNod).1) == (4 : Int))
        (cond (!((lookS ((((t25.getD t27.toNat zNod).2).2).1) vars5).isSome))
          (grd (decide (l7.length + ([((((t25.getD t27.toNat zNod).2).2).1, ((t25.getD t27.toNat zNod).2).1)] : List Vr).length ≤ maxN)) (
            cond ((lookS ((((t25.getD t27.toNat zNod).2).2).1) funcs6).isSome)
              (some (Ex.ret, (v0, ([] : List Vr), ([] : List ((List UInt8) × Choices)), false, putS ((((t25.getD t27.toNat zNod).2).2).1) ((((t25.getD t27.toNat zNod).2).2).1, ((t25.getD t27.toNat zNod).2).1) vars5, funcs6, l7 ++ ([((((t25.getD t27.toNat zNod).2).2).1, ((t25.getD t27.toNat zNod).2).1)] : List Vr), m8, t25, t26, t27, ())))
              (cond ((((t25.getD t27.toNat zNod).2).1) != (((t25.getD t27.toNat zNod).2).1))
                (some (Ex.ret, (v0, ([] : List Vr), ([] : List ((List UInt8) × Choices)), false, putS ((((t25.getD t27.toNat zNod).2).2).1) ((((t25.getD t27.toNat zNod).2).2).1, ((t25.getD t27.toNat zNod).2).1) vars5, funcs6, l7 ++ ([((((t25.getD t27.toNat zNod).2).2).1, ((t25.getD t27.toNat zNod).2).1)] : List Vr), m8, t25, t26, t27, ())))
                (some (Ex.normal, (v0, t2, t3, t4, putS ((((t25.getD t27.toNat zNod).2).2).1) ((((t25.getD t27.toNat zNod).2).2).1, ((t25.getD t27.toNat zNod).2).1) vars5, funcs6, l7 ++ ([((((t25.getD t27.toNat zNod).2).2).1, ((t25.getD t27.toNat zNod).2).1)] : List Vr), m8, t25, t26, IntKind.i64.wrap (t27 + (1 : Int)), ()))))))
          (cond ((lookS ((((t25.getD t27.toNat zNod).2).2).1) funcs6).isSome)
            (some (Ex.ret, (v0, ([] : List Vr), ([] : List ((List UInt8) × Choices)), false, vars5, funcs6, l7, m8, t25, t26, t27, ())))
            (cond ((((lookS ((((t25.getD t27.toNat zNod).2).2).1) vars5).getD zVr).2) != (((t25.getD t27.toNat zNod).2).1))
              (some (Ex.ret, (v0, ([] : List Vr), ([] : List ((List UInt8) × Choices)), false, vars5, funcs6, l7, m8, t25, t26, t27, ())))
              (some (Ex.normal, (v0, t2, t3, t4, vars5, funcs6, l7, m8, t25, t26, IntKind.i64.wrap (t27 + (1 : Int)), ()))))))
        (cond (((t25.getD t27.toNat zNod).1) == (5 : Int))
          ((t_view_signature v0 t27).bind fun r1 =>
          cond (!((lookS ((((t25.getD t27.toNat zNod).2).2).1) funcs6).isSome))
            (grd (decide (m8.length + ([r1.1.1] : List ((List UInt8) × Choices)).length ≤ maxN)) (
              cond ((lookS ((((t25.getD t27.toNat zNod).2).2).1) vars5).isSome)
                (some (Ex.ret, (v0, ([] : List Vr), ([] : List ((List UInt8) × Choices)), false, vars5, putS ((((t25.getD t27.toNat zNod).2).2).1) r1.1.1 funcs6, l7, m8 ++ ([r1.1.1] : List ((List UInt8) × Choices)), t25, t26, t27, ())))
                ((t_same r1.1.1 r1.1.1).bind fun r2 =>
                cond (!r2.1.1)
                  (some (Ex.ret, (v0, ([] : List Vr), ([] : List ((List UInt8) × Choices)), false, vars5, putS ((((t25.getD t27.toNat zNod).2).2).1) r1.1.1 funcs6, l7, m8 ++ ([r1.1.1] : List ((List UInt8) × Choices)), t25, t26, t27, ())))
                  (some (Ex.normal, (v0, t2, t3, t4, vars5, putS ((((t25.getD t27.toNat zNod).2).2).1) r1.1.1 funcs6, l7, m8 ++ ([r1.1.1] : List ((List UInt8) × Choices)), t25, t26, IntKind.i64.wrap (t27 + (1 : Int)), ()))))))
            (cond ((lookS ((((t25.getD t27.toNat zNod).2).2).1) vars5).isSome)
              (some (Ex.ret, (v0, ([] : List Vr), ([] : List ((List UInt8) × Choices)), false, vars5, funcs6, l7, m8, t25, t26, t27, ())))
              ((t_same ((lookS ((((t25.getD t27.toNat zNod).2).2).1) funcs6).getD (([] : List UInt8), ([] : List Int), (0 : Int))) r1.1.1).bind fun r3 =>
              cond (!r3.1.1)
                (some (Ex.ret, (v0, ([] : List Vr), ([] : List ((List UInt8) × Choices)), false, vars5, funcs6, l7, m8, t25, t26, t27, ())))
                (some (Ex.normal, (v0, t2, t3, t4, vars5, funcs6, l7, m8, t25, t26, IntKind.i64.wrap (t27 + (1 : Int)), ()))))))
          (some (Ex.normal, (v0, t2, t3, t4, vars5, funcs6, l7, m8, t25, t26, IntKind.i64.wrap (t27 + (1 : Int)), ()))))))
    (some (Ex.exit 0, (v0, t2, t3, t4, vars5, funcs6, l7, m8, t25, t26, t27, ())))
def t_view_names (v0 : Option View) : Option (((List Vr) × (List ((List UInt8) × Choices)) × Bool × Unit) × Unit) :=
  grd (v0.isSome) (
    (loopO t_view_names_s5 (v0, ([] : List Vr), ([] : List ((List UInt8) × Choices)), false, ([] : List (List UInt8 × Vr)), ([] : List (List UInt8 × (List UInt8) × Choices)), ([] : List Vr), ([] : List ((List UInt8) × Choices)), (v0.getD zView).1, (((v0.getD zView).1).length : Int), 0, ())).bind fun y1 =>
    cond (Ex.same y1.1 (Ex.exit 0))
      (some ((y1.2.2.2.2.2.2.2.1, y1.2.2.2.2.2.2.2.2.1, true, ()), ()))
      (cond (Ex.same y1.1 Ex.ret)
        (some ((y1.2.2.1, y1.2.2.2.1, y1.2.2.2.2.1, ()), ()))
        (none)))
def t_known (t0 : List Nod) : Option (((Option View) × Bool × Unit) × Unit) :=
  cond ((t0.length : Int) == (0 : Int))
    (some (((none : Option View), false, ()), ()))
    (cond (decide ((t0.length : Int) > (20000 : Int)))
      (some (((none : Option View), false, ()), ()))
      ((t_look t0).bind fun r1 =>
      cond (!r1.1.2.1)
        (some (((none : Option View), false, ()), ()))
        ((t_view_large r1.1.1).bind fun r2 =>
        cond (r2.1.1)
          (some (((none : Option View), false, ()), ()))
          ((t_view_names r1.1.1).bind fun r3 =>
          cond (!r3.1.2.2.1)
            (some (((none : Option View), false, ()), ()))
            (some ((r1.1.1, true, ()), ()))))))
def t_Valid (t0 : List Nod) : Option ((Bool × Unit) × Unit) :=
  (t_known t0).bind fun r1 =>
  some ((r1.1.2.1, ()), ())
def v_evaluator_variable (e0 : Evl) (n1 : Nod) : Option ((Val × Int × Unit) × (Evl × Unit)) :=
  cond (!((lookS n1.2.2.1 e0.2.2.1).isSome))
    (some ((((0 : Int), false, ([] : List UInt8), ([] : List (List UInt8)), ([] : List (List UInt8))), 7, ()), e0, ()))
    (cond ((((lookS n1.2.2.1 e0.2.2.1).getD zVal).1) != n1.2.1)
      (some ((((0 : Int), false, ([] : List UInt8), ([] : List (List UInt8)), ([] : List (List UInt8))), 3, ()), e0, ()))
      (some (((lookS n1.2.2.1 e0.2.2.1).getD zVal, 0, ()), e0, ())))
def slices_EqualFunc_Value_Value_Value_Value_v_Equal_s4 (x : (List Val) × Unit × Bool × (List Val) × Int × Int × Unit) : Option (Ex × ((List Val) × Unit × Bool × (List Val) × Int × Int × Unit)) :=
  let s21 := x.1
  let eq2 := x.2.1
  let t6 := x.2.2.1
  let t15 := x.2.2.2.1
  let t16 := x.2.2.2.2.1
  let t17 := x.2.2.2.2.2.1
  cond (decide (t17 < t16))
    (grd (decide (0 ≤ t17) && decide (t17 < t15.length)) (
      grd (decide (0 ≤ t17) && decide (t17 < s21.length)) (
        (v_Equal (t15.getD t17.toNat zVal) (s21.getD t17.toNat zVal)).bind fun r1 =>
        cond (!r1.1.1)
          (some (Ex.ret, (s21, (), false, t15, t16, t17, ())))
          (some (Ex.normal, (s21, (), t6, t15, t16, IntKind.i64.wrap (t17 + (1 : Int)), ()))))))
    (some (Ex.exit 0, (s21, (), t6, t15, t16, t17, ())))
def slices_EqualFunc_Value_Value_Value_Value_v_Equal (s10 : List Val) (s21 : List Val) (eq2 : Unit) : Option ((Bool × Unit) × Unit) :=
  cond ((s10.length : Int) != (s21.length : Int))
    (some ((false, ()), ()))
    ((loopO slices_EqualFunc_Value_Value_Value_Value_v_Equal_s4 (s21, (), false, s10, (s10.length : Int), 0, ())).bind fun y1 =>
    cond (Ex.same y1.1 (Ex.exit 0))
      (some ((true, ()), ()))
      (cond (Ex.same y1.1 Ex.ret)
        (some ((y1.2.2.2.1, ()), ()))
        (none)))
def v_evaluator_call_1 (l0 : List Val) (a1 : Option (List Val)) : Option ((Bool × Unit) × Unit) :=
  grd (a1.isSome) (
    (slices_EqualFunc_Value_Value_Value_Value_v_Equal l0 (a1.getD ([] : List Val)) ()).bind fun r1 =>
    some ((r1.1.1, ()), ()))
def slices_IndexFunc_Value_Value_v_evaluator_call_1_s2 (x : (List (List Val)) × (Option (List Val)) × Int × Int × Int × Unit) : Option (Ex × ((List (List Val)) × (Option (List Val)) × Int × Int × Int × Unit)) :=
  let s0 := x.1
  let f1 := x.2.1
  let t4 := x.2.2.1
  let t7 := x.2.2.2.1
  let t8 := x.2.2.2.2.1
  cond (decide (t8 < t7))
    (grd (decide (0 ≤ t8) && decide (t8 < s0.length)) (
      (v_evaluator_call_1 (s0.getD t8.toNat ([] : List Val)) f1).bind fun r1 =>
      cond (r1.1.1)
        (some (Ex.ret, (s0, f1, t8, t7, t8, ())))
        (some (Ex.normal, (s0, f1, t4, t7, IntKind.i64.wrap (t8 + (1 : Int)), ())))))
    (some (Ex.exit 0, (s0, f1, t4, t7, t8, ())))
def slices_IndexFunc_Value_Value_v_evaluator_call_1 (s0 : List (List Val)) (f1 : Option (List Val)) : Option ((Int × Unit) × Unit) :=
  (loopO slices_IndexFunc_Value_Value_v_evaluator_call_1_s2 (s0, f1, 0, (s0.length : Int), 0, ())).bind fun y1 =>
  cond (Ex.same y1.1 (Ex.exit 0))
    (some ((-1, ()), ()))
    (cond (Ex.same y1.1 Ex.ret)
      (some ((y1.2.2.2.1, ()), ()))
      (none))
def v_evaluator_call (e0 : Evl) (n1 : Nod) (kids2 : List Val) : Option ((Val × Int × Unit) × (Evl × Unit)) :=
  cond (!((lookS n1.2.2.1 e0.2.2.2).isSome))
    (some ((((0 : Int), false, ([] : List UInt8), ([] : List (List UInt8)), ([] : List (List UInt8))), 4, ()), e0, ()))
    ((slices_IndexFunc_Value_Value_v_evaluator_call_1 ((((lookS n1.2.2.1 e0.2.2.2).getD zInterp).2).1) (some kids2)).bind fun r1 =>
    cond (decide (r1.1.1 ≥ (0 : Int)))
      (grd (decide (0 ≤ r1.1.1) && decide (r1.1.1 < (((((lookS n1.2.2.1 e0.2.2.2).getD zInterp).2).2).1).length)) (
        cond ((((((((lookS n1.2.2.1 e0.2.2.2).getD zInterp).2).2).1).getD r1.1.1.toNat zVal).1) != n1.2.1)
          (some ((((0 : Int), false, ([] : List UInt8), ([] : List (List UInt8)), ([] : List (List UInt8))), 3, ()), e0, ()))
          (some (((((((lookS n1.2.2.1 e0.2.2.2).getD zInterp).2).2).1).getD r1.1.1.toNat zVal, 0, ()), e0, ()))))
      (cond (((((((lookS n1.2.2.1 e0.2.2.2).getD zInterp).2).2).2).1) != n1.2.1)
        (some ((((0 : Int), false, ([] : List UInt8), ([] : List (List UInt8)), ([] : List (List UInt8))), 3, ()), e0, ()))
        (some ((((((lookS n1.2.2.1 e0.2.2.2).getD zInterp).2).2).2, 0, ()), e0, ()))))
def v_not (v0 : Val) : Option ((Bool × Unit) × Unit) :=
  some ((!v0.2.1, ()), ())
def slices_IndexFunc_Value_Value_v_not_s2 (x : (List Val) × Unit × Int × Int × Int × Unit) : Option (Ex × ((List Val) × Unit × Int × Int × Int × Unit)) :=
  let s0 := x.1
  let f1 := x.2.1
  let t4 := x.2.2.1
  let t7 := x.2.2.2.1
  let t8 := x.2.2.2.2.1
  cond (decide (t8 < t7))
    (grd (decide (0 ≤ t8) && decide (t8 < s0.length)) (
      (v_not (s0.getD t8.toNat zVal)).bind fun r1 =>
      cond (r1.1.1)
        (some (Ex.ret, (s0, (), t8, t7, t8, ())))
        (some (Ex.normal, (s0, (), t4, t7, IntKind.i64.wrap (t8 + (1 : Int)), ())))))
    (some (Ex.exit 0, (s0, (), t4, t7, t8, ())))
def slices_IndexFunc_Value_Value_v_not (s0 : List Val) (f1 : Unit) : Option ((Int × Unit) × Unit) :=
  (loopO slices_IndexFunc_Value_Value_v_not_s2 (s0, (), 0, (s0.length : Int), 0, ())).bind fun y1 =>
  cond (Ex.same y1.1 (Ex.exit 0))
    (some ((-1, ()), ()))
    (cond (Ex.same y1.1 Ex.ret)
      (some ((y1.2.2.2.1, ()), ()))
      (none))
def slices_ContainsFunc_Value_Value_v_not (s0 : List Val) (f1 : Unit) : Option ((Bool × Unit) × Unit) :=
  (slices_IndexFunc_Value_Value_v_not s0 ()).bind fun r1 =>
  some ((decide (r1.1.1 ≥ (0 : Int)), ()), ())
def v_truth (is0 : Bool) : Option ((Val × Unit) × Unit) :=
  some (((1, is0, ([] : List UInt8), ([] : List (List UInt8)), ([] : List (List UInt8))), ()), ())
def v_is (v0 : Val) : Option ((Bool × Unit) × Unit) :=
  some ((v0.2.1, ()), ())
def slices_IndexFunc_Value_Value_v_is_s2 (x : (List Val) × Unit × Int × Int × Int × Unit) : Option (Ex × ((List Val) × Unit × Int × Int × Int × Unit)) :=
  let s0 := x.1
  let f1 := x.2.1
  let t4 := x.2.2.1
  let t7 := x.2.2.2.1
  let t8 := x.2.2.2.2.1
  cond (decide (t8 < t7))
    (grd (decide (0 ≤ t8) && decide (t8 < s0.length)) (
      (v_is (s0.getD t8.toNat zVal)).bind fun r1 =>
      cond (r1.1.1)
        (some (Ex.ret, (s0, (), t8, t7, t8, ())))
        (some (Ex.normal, (s0, (), t4, t7, IntKind.i64.wrap (t8 + (1 : Int)), ())))))
    (some (Ex.exit 0, (s0, (), t4, t7, t8, ())))
def slices_IndexFunc_Value_Value_v_is (s0 : List Val) (f1 : Unit) : Option ((Int × Unit) × Unit) :=
  (loopO slices_IndexFunc_Value_Value_v_is_s2 (s0, (), 0, (s0.length : Int), 0, ())).bind fun y1 =>
  cond (Ex.same y1.1 (Ex.exit 0))
    (some ((-1, ()), ()))
    (cond (Ex.same y1.1 Ex.ret)
      (some ((y1.2.2.2.1, ()), ()))
      (none))
def slices_ContainsFunc_Value_Value_v_is (s0 : List Val) (f1 : Unit) : Option ((Bool × Unit) × Unit) :=
  (slices_IndexFunc_Value_Value_v_is s0 ()).bind fun r1 =>
  some ((decide (r1.1.1 ≥ (0 : Int)), ()), ())
def v_numberOf (sort0 : Int) (a1 : List UInt8) : Option ((Val × Unit) × Unit) :=
  some (((sort0, false, a1, ([] : List (List UInt8)), ([] : List (List UInt8))), ()), ())
def n_Mul_1 (x0 : Sml) (y1 : Sml) : Option (((List UInt8) × Unit) × Unit) :=
  (n_fraction (IntKind.i64.wrap (x0.1 * y1.1)) (IntKind.i64.wrap (x0.2 * y1.2))).bind fun r1 =>
  some ((r1.1.1, ()), ())
def n_rat_mul (x0 : Rt) (y1 : Rt) : Option ((Rt × Unit) × Unit) :=
  (n_nat_mul x0.2.1 y1.2.1).bind fun r1 =>
  (n_nat_mul x0.2.2 y1.2.2).bind fun r2 =>
  (n_lowest (!(x0.1 == y1.1)) r1.1.1 r2.1.1).bind fun r3 =>
  some (((r3.1.1.1, r3.1.1.2.1, r3.1.1.2.2), ()), ())
def n_Mul_2 (x0 : Rt) (y1 : Rt) : Option (((List UInt8) × Unit) × Unit) :=
  (n_rat_mul (x0.1, x0.2.1, x0.2.2) (y1.1, y1.2.1, y1.2.2)).bind fun r1 =>
  (n_rat_text (r1.1.1.1, r1.1.1.2.1, r1.1.1.2.2)).bind fun r2 =>
  some ((r2.1.1, ()), ())
def n_two_n_Mul_1_n_Mul_2 (a0 : List UInt8) (b1 : List UInt8) (small2 : Unit) (all3 : Unit) : Option (((List UInt8) × Unit) × Unit) :=
  (n_smallOf a0).bind fun r1 =>
  (n_smallOf b1).bind fun r2 =>
  cond (r1.1.2.1)
    (cond (r2.1.2.1)
      ((n_Mul_1 (r1.1.1.1, r1.1.1.2) (r2.1.1.1, r2.1.1.2)).bind fun r3 =>
      some ((r3.1.1, ()), ()))
      ((n_read a0).bind fun r4 =>
      (n_read b1).bind fun r5 =>
      cond (!r4.1.2.1)
        (some ((([] : List UInt8), ()), ()))
        (cond (!r5.1.2.1)
          (some ((([] : List UInt8), ()), ()))
          ((n_Mul_2 (r4.1.1.1, r4.1.1.2.1, r4.1.1.2.2) (r5.1.1.1, r5.1.1.2.1, r5.1.1.2.2)).bind fun r6 =>
          some ((r6.1.1, ()), ())))))
    ((n_read a0).bind fun r7 =>
    (n_read b1).bind fun r8 =>
    cond (!r7.1.2.1)
      (some ((([] : List UInt8), ()), ()))
      (cond (!r8.1.2.1)
        (some ((([] : List UInt8), ()), ()))
        ((n_Mul_2 (r7.1.1.1, r7.1.1.2.1, r7.1.1.2.2) (r8.1.1.1, r8.1.1.2.1, r8.1.1.2.2)).bind fun r9 =>
        some ((r9.1.1, ()), ()))))
def n_Mul (a0 : List UInt8) (b1 : List UInt8) : Option (((List UInt8) × Unit) × Unit) :=
  (n_two_n_Mul_1_n_Mul_2 a0 b1 () ()).bind fun r1 =>
  some ((r1.1.1, ()), ())
def n_rat_quoRem (x0 : Rt) (y1 : Rt) : Option ((Rt × Rt × Unit) × Unit) :=
  (n_nat_quoRem x0.2.1 y1.2.1).bind fun r1 =>
  cond (x0.1)
    (cond (decide ((r1.1.2.1.length : Int) > (0 : Int)))
      ((n_nat_add r1.1.1 ([1] : List Int)).bind fun r2 =>
      (n_nat_sub y1.2.1 r1.1.2.1).bind fun r3 =>
      some (((!(x0.1 == y1.1), r2.1.1, ([1] : List Int)), (false, r3.1.1, ([1] : List Int)), ()), ()))
      (some (((!(x0.1 == y1.1), r1.1.1, ([1] : List Int)), (false, r1.1.2.1, ([1] : List Int)), ()), ())))
    (some (((!(x0.1 == y1.1), r1.1.1, ([1] : List Int)), (false, r1.1.2.1, ([1] : List Int)), ()), ()))
def n_quoRem (a0 : List UInt8) (b1 : List UInt8) : Option (((List UInt8) × (List UInt8) × Unit) × Unit) :=
  (n_IsInt a0).bind fun r1 =>
  cond (!r1.1.1)
    (some ((([] : List UInt8), ([] : List UInt8), ()), ()))
    ((n_IsInt b1).bind fun r2 =>
    cond (!r2.1.1)
      (some ((([] : List UInt8), ([] : List UInt8), ()), ()))
      (cond (b1 == ([48] : List UInt8))
        (some ((([] : List UInt8), ([] : List UInt8), ()), ()))
        ((n_read a0).bind fun r3 =>
        (n_read b1).bind fun r4 =>
        (n_rat_quoRem (r3.1.1.1, r3.1.1.2.1, r3.1.1.2.2) (r4.1.1.1, r4.1.1.2.1, r4.1.1.2.2)).bind fun r5 =>
        (n_rat_text (r5.1.1.1, r5.1.1.2.1, r5.1.1.2.2)).bind fun r6 =>
        (n_rat_text (r5.1.2.1.1, r5.1.2.1.2.1, r5.1.2.1.2.2)).bind fun r7 =>
        some ((r6.1.1, r7.1.1, ()), ()))))
def n_Quo (a0 : List UInt8) (b1 : List UInt8) : Option (((List UInt8) × Unit) × Unit) :=
  (n_quoRem a0 b1).bind fun r1 =>
  some ((r1.1.1, ()), ())
def n_Rem (a0 : List UInt8) (b1 : List UInt8) : Option (((List UInt8) × Unit) × Unit) :=
  (n_quoRem a0 b1).bind fun r1 =>
  some ((r1.1.2.1, ()), ())
def v_compute_s7 (x : (List Val) × Val × (List UInt8) × (List Val) × Int × Int × Unit) : Option (Ex × ((List Val) × Val × (List UInt8) × (List Val) × Int × Int × Unit)) :=
  let l1 := x.1
  let t4 := x.2.1
  let sum5 := x.2.2.1
  let t19 := x.2.2.2.1
  let t20 := x.2.2.2.2.1
  let t21 := x.2.2.2.2.2.1
  cond (decide (t21 < t20))
    (grd (decide (0 ≤ t21) && decide (t21 < t19.length)) (
      (n_Add sum5 ((((t19.getD t21.toNat zVal).2).2).1)).bind fun r1 =>
      some (Ex.normal, (l1, t4, r1.1.1, t19, t20, IntKind.i64.wrap (t21 + (1 : Int)), ()))))
    (some (Ex.exit 1, (l1, t4, sum5, t19, t20, t21, ())))
def v_compute (n0 : Nod) (l1 : List Val) : Option ((Val × Unit) × Unit) :=
  cond (n0.1 == (3 : Int))
    ((v_numberOf n0.2.1 n0.2.2.2.1).bind fun r1 =>
    some ((r1.1.1, ()), ()))
    (cond (n0.1 == (14 : Int))
      ((loopO v_compute_s7 (l1, ((0 : Int), false, ([] : List UInt8), ([] : List (List UInt8)), ([] : List (List UInt8))), ([48] : List UInt8), l1, (l1.length : Int), 0, ())).bind fun y2 =>
      cond (Ex.same y2.1 (Ex.exit 1))
        (grd (decide (0 ≤ (0 : Int)) && decide ((0 : Int) < y2.2.1.length)) (
          (v_numberOf ((y2.2.1.getD (0 : Int).toNat zVal).1) y2.2.2.2.1).bind fun r3 =>
          some ((r3.1.1, ()), ())))
        (none))
      (cond (n0.1 == (15 : Int))
        (grd (decide (0 ≤ (0 : Int)) && decide ((0 : Int) < l1.length)) (
          grd (decide (0 ≤ (0 : Int)) && decide ((0 : Int) < l1.length)) (
            grd (decide (0 ≤ (1 : Int)) && decide ((1 : Int) < l1.length)) (
              (n_Mul ((((l1.getD (0 : Int).toNat zVal).2).2).1) ((((l1.getD (1 : Int).toNat zVal).2).2).1)).bind fun r4 =>
              (v_numberOf ((l1.getD (0 : Int).toNat zVal).1) r4.1.1).bind fun r5 =>
              some ((r5.1.1, ()), ())))))
        (cond (n0.1 == (16 : Int))
          (grd (decide (0 ≤ (0 : Int)) && decide ((0 : Int) < l1.length)) (
            (n_Quo ((((l1.getD (0 : Int).toNat zVal).2).2).1) n0.2.2.2.1).bind fun r6 =>
            (v_numberOf 2 r6.1.1).bind fun r7 =>
            some ((r7.1.1, ()), ())))
          (cond (n0.1 == (17 : Int))
            (grd (decide (0 ≤ (0 : Int)) && decide ((0 : Int) < l1.length)) (
              (n_Rem ((((l1.getD (0 : Int).toNat zVal).2).2).1) n0.2.2.2.1).bind fun r8 =>
              (v_numberOf 2 r8.1.1).bind fun r9 =>
              some ((r9.1.1, ()), ())))
            (cond (n0.1 == (18 : Int))
              (grd (decide (0 ≤ (0 : Int)) && decide ((0 : Int) < l1.length)) (
                grd (decide (0 ≤ (1 : Int)) && decide ((1 : Int) < l1.length)) (
                  (v_at (l1.getD (0 : Int).toNat zVal) ((((l1.getD (1 : Int).toNat zVal).2).2).1)).bind fun r10 =>
                  (v_numberOf 2 r10.1.1).bind fun r11 =>
                  some ((r11.1.1, ()), ()))))
              (cond (n0.1 == (19 : Int))
                (grd (decide (0 ≤ (0 : Int)) && decide ((0 : Int) < l1.length)) (
                  grd (decide (0 ≤ (1 : Int)) && decide ((1 : Int) < l1.length)) (
                    grd (decide (0 ≤ (2 : Int)) && decide ((2 : Int) < l1.length)) (
                      (v_store (l1.getD (0 : Int).toNat zVal) ((((l1.getD (1 : Int).toNat zVal).2).2).1) ((((l1.getD (2 : Int).toNat zVal).2).2).1)).bind fun r12 =>
                      some ((r12.1.1, ()), ())))))
                (grd (decide (0 ≤ (0 : Int)) && decide ((0 : Int) < l1.length)) (some (((4, false, (((l1.getD (0 : Int).toNat zVal).2).2).1, ([] : List (List UInt8)), ([] : List (List UInt8))), ()), ())))))))))
def v_operate (n0 : Nod) (l1 : List Val) : Option ((Val × Unit) × Unit) :=
  cond (n0.1 == (1 : Int))
    ((slices_ContainsFunc_Value_Value_v_not l1 ()).bind fun r1 =>
    (v_truth !r1.1.1).bind fun r2 =>
    some ((r2.1.1, ()), ()))
    (cond (n0.1 == (7 : Int))
      ((slices_ContainsFunc_Value_Value_v_not l1 ()).bind fun r3 =>
      (v_truth !r3.1.1).bind fun r4 =>
      some ((r4.1.1, ()), ()))
      (cond (n0.1 == (2 : Int))
        ((slices_ContainsFunc_Value_Value_v_is l1 ()).bind fun r5 =>
        (v_truth r5.1.1).bind fun r6 =>
        some ((r6.1.1, ()), ()))
        (cond (n0.1 == (8 : Int))
          ((slices_ContainsFunc_Value_Value_v_is l1 ()).bind fun r7 =>
          (v_truth r7.1.1).bind fun r8 =>
          some ((r8.1.1, ()), ()))
          (cond (n0.1 == (6 : Int))
            (grd (decide (0 ≤ (0 : Int)) && decide ((0 : Int) < l1.length)) (
              (v_not (l1.getD (0 : Int).toNat zVal)).bind fun r9 =>
              (v_truth r9.1.1).bind fun r10 =>
              some ((r10.1.1, ()), ())))
            (cond (n0.1 == (9 : Int))
              (grd (decide (0 ≤ (0 : Int)) && decide ((0 : Int) < l1.length)) (
                (v_not (l1.getD (0 : Int).toNat zVal)).bind fun r11 =>
                cond (r11.1.1)
                  ((v_truth true).bind fun r12 =>
                  some ((r12.1.1, ()), ()))
                  (grd (decide (0 ≤ (1 : Int)) && decide ((1 : Int) < l1.length)) (
                    (v_is (l1.getD (1 : Int).toNat zVal)).bind fun r13 =>
                    (v_truth r13.1.1).bind fun r14 =>
                    some ((r14.1.1, ()), ())))))
              (cond (n0.1 == (10 : Int))
                (grd (decide (0 ≤ (0 : Int)) && decide ((0 : Int) < l1.length)) (
                  (v_is (l1.getD (0 : Int).toNat zVal)).bind fun r15 =>
                  cond (r15.1.1)
                    (grd (decide (0 ≤ (1 : Int)) && decide ((1 : Int) < l1.length)) (some ((l1.getD (1 : Int).toNat zVal, ()), ())))
                    (grd (decide (0 ≤ (2 : Int)) && decide ((2 : Int) < l1.length)) (some ((l1.getD (2 : Int).toNat zVal, ()), ())))))
                (cond (n0.1 == (11 : Int))
                  (grd (decide (0 ≤ (0 : Int)) && decide ((0 : Int) < l1.length)) (
                    grd (decide (0 ≤ (1 : Int)) && decide ((1 : Int) < l1.length)) (
                      (v_Equal (l1.getD (0 : Int).toNat zVal) (l1.getD (1 : Int).toNat zVal)).bind fun r16 =>
                      (v_truth r16.1.1).bind fun r17 =>
                      some ((r17.1.1, ()), ()))))
                  (cond (n0.1 == (12 : Int))
                    (grd (decide (0 ≤ (0 : Int)) && decide ((0 : Int) < l1.length)) (
                      grd (decide (0 ≤ (1 : Int)) && decide ((1 : Int) < l1.length)) (
                        (n_Cmp ((((l1.getD (0 : Int).toNat zVal).2).2).1) ((((l1.getD (1 : Int).toNat zVal).2).2).1)).bind fun r18 =>
                        (v_truth (decide (r18.1.1 ≤ (0 : Int)))).bind fun r19 =>
                        some ((r19.1.1, ()), ()))))
                    (cond (n0.1 == (13 : Int))
                      (grd (decide (0 ≤ (0 : Int)) && decide ((0 : Int) < l1.length)) (
                        grd (decide (0 ≤ (1 : Int)) && decide ((1 : Int) < l1.length)) (
                          (n_Cmp ((((l1.getD (0 : Int).toNat zVal).2).2).1) ((((l1.getD (1 : Int).toNat zVal).2).2).1)).bind fun r20 =>
                          (v_truth (decide (r20.1.1 < (0 : Int)))).bind fun r21 =>
                          some ((r21.1.1, ()), ()))))
                      ((v_compute n0 l1).bind fun r22 =>
                      some ((r22.1.1, ()), ())))))))))))
def v_evaluator_next_s5 (v_evaluator_nextᵣ : Evl → Option ((Val × Int × Unit) × (Evl × Unit))) (x : Evl × Val × Int × Nod × (List Val) × Int × Int × Unit) : Option (Ex × (Evl × Val × Int × Nod × (List Val) × Int × Int × Unit)) :=
  let e0 := x.1
  let t2 := x.2.1
  let t3 := x.2.2.1
  let n4 := x.2.2.2.1
  let kids5 := x.2.2.2.2.1
  let t26 := x.2.2.2.2.2.1
  let t27 := x.2.2.2.2.2.2.1
  cond (decide (t27 < t26))
    ((v_evaluator_nextᵣ e0).bind fun r1 =>
    cond (r1.1.2.1 != (0 : Int))
      (some (Ex.ret, (r1.2.1, ((0 : Int), false, ([] : List UInt8), ([] : List (List UInt8)), ([] : List (List UInt8))), r1.1.2.1, n4, kids5, t26, t27, ())))
      (grd (decide (kids5.length + ([r1.1.1] : List Val).length ≤ maxN)) (some (Ex.normal, (r1.2.1, t2, t3, n4, kids5 ++ ([r1.1.1] : List Val), t26, IntKind.i64.wrap (t27 + (1 : Int)), ())))))
    (some (Ex.exit 0, (e0, t2, t3, n4, kids5, t26, t27, ())))
def v_evaluator_next_F (v_evaluator_nextᵣ : Evl → Option ((Val × Int × Unit) × (Evl × Unit))) (e0 : Evl) : Option ((Val × Int × Unit) × (Evl × Unit)) :=
  grd (decide (0 ≤ e0.2.1) && decide (e0.2.1 < e0.1.length)) (
    (loopO (v_evaluator_next_s5 v_evaluator_nextᵣ) ((e0.1, IntKind.i64.wrap (e0.2.1 + (1 : Int)), e0.2.2), ((0 : Int), false, ([] : List UInt8), ([] : List (List UInt8)), ([] : List (List UInt8))), 0, e0.1.getD e0.2.1.toNat zNod, ([] : List Val), ((((e0.1.getD e0.2.1.toNat zNod).2).2).2).2, 0, ())).bind fun y1 =>
    cond (Ex.same y1.1 (Ex.exit 0))
      (cond (y1.2.2.2.2.1.1 == (4 : Int))
        ((v_evaluator_variable y1.2.1 y1.2.2.2.2.1).bind fun r2 =>
        some ((r2.1.1, r2.1.2.1, ()), r2.2.1, ()))
        (cond (y1.2.2.2.2.1.1 == (5 : Int))
          ((v_evaluator_call y1.2.1 y1.2.2.2.2.1 y1.2.2.2.2.2.1).bind fun r3 =>
          some ((r3.1.1, r3.1.2.1, ()), r3.2.1, ()))
          ((v_operate y1.2.2.2.2.1 y1.2.2.2.2.2.1).bind fun r4 =>
          some ((r4.1.1, 0, ()), y1.2.1, ()))))
      (cond (Ex.same y1.1 Ex.ret)
        (some ((y1.2.2.1, y1.2.2.2.1, ()), y1.2.1, ()))
        (none)))
def v_evaluator_next : Nat → Evl → Option ((Val × Int × Unit) × (Evl × Unit))
  | 0 => fun _ => none
  | n + 1 => v_evaluator_next_F (v_evaluator_next n)
def v_Eval (t0 : List Nod) (env1 : List Bind) (fns2 : List Interp) : Option ((Val × Int × Unit) × Unit) :=
  (v_bindings env1).bind fun r1 =>
  (v_meanings fns2).bind fun r2 =>
  cond (!r1.1.2.1)
    (some ((((0 : Int), false, ([] : List UInt8), ([] : List (List UInt8)), ([] : List (List UInt8))), 1, ()), ()))
    (cond (!r2.1.2.1)
      (some ((((0 : Int), false, ([] : List UInt8), ([] : List (List UInt8)), ([] : List (List UInt8))), 1, ()), ()))
      ((t_Valid t0).bind fun r3 =>
      cond (!r3.1.1)
        (some ((((0 : Int), false, ([] : List UInt8), ([] : List (List UInt8)), ([] : List (List UInt8))), 1, ()), ()))
        ((v_evaluator_next big (t0, 0, r1.1.1, r2.1.1)).bind fun r4 =>
        cond (r4.1.2.1 != (0 : Int))
          (some ((((0 : Int), false, ([] : List UInt8), ([] : List (List UInt8)), ([] : List (List UInt8))), r4.1.2.1, ()), ()))
          ((v_clone r4.1.1).bind fun r5 =>
          some ((r5.1.1, 0, ()), ())))))
def v_integer (a0 : List UInt8) : Option ((Nod × Unit) × Unit) :=
  some (((3, 2, ([] : List UInt8), a0, (0 : Int)), ()), ())
def v_Term_s13 (x : Val × (List Nod) × Int × Int × Unit) : Option (Ex × (Val × (List Nod) × Int × Int × Unit)) :=
  let v1 := x.1
  let t4 := x.2.1
  let t31 := x.2.2.1
  let t32 := x.2.2.2.1
  cond (decide (t32 < t31))
    (grd (decide (t4.length + ([(19, (0 : Int), ([] : List UInt8), ([] : List UInt8), 3)] : List Nod).length ≤ maxN)) (some (Ex.normal, (v1, t4 ++ ([(19, (0 : Int), ([] : List UInt8), ([] : List UInt8), 3)] : List Nod), t31, IntKind.i64.wrap (t32 + (1 : Int)), ()))))
    (some (Ex.exit 1, (v1, t4, t31, t32, ())))
def v_Term_s18 (x : Val × (List Nod) × (List (List UInt8)) × Int × Int × Unit) : Option (Ex × (Val × (List Nod) × (List (List UInt8)) × Int × Int × Unit)) :=
  let v1 := x.1
  let t4 := x.2.1
  let t47 := x.2.2.1
  let t48 := x.2.2.2.1
  let t49 := x.2.2.2.2.1
  cond (decide (t49 < t48))
    (grd (decide (0 ≤ t49) && decide (t49 < t47.length)) (
      (v_integer (t47.getD t49.toNat ([] : List UInt8))).bind fun r1 =>
      grd (decide (0 ≤ t49) && decide (t49 < v1.2.2.2.2.length)) (
        (v_integer (v1.2.2.2.2.getD t49.toNat ([] : List UInt8))).bind fun r2 =>
        grd (decide (t4.length + ([r1.1.1, r2.1.1] : List Nod).length ≤ maxN)) (some (Ex.normal, (v1, t4 ++ ([r1.1.1, r2.1.1] : List Nod), t47, t48, IntKind.i64.wrap (t49 + (1 : Int)), ()))))))
    (some (Ex.exit 3, (v1, t4, t47, t48, t49, ())))
def v_Term (v0 : Val) : Option (((List Nod) × Int × Unit) × Unit) :=
  (v_Valid v0).bind fun r1 =>
  cond (!r1.1.1)
    (some ((([] : List Nod), 1, ()), ()))
    (cond (v0.1 == (1 : Int))
      (cond (v0.2.1)
        (some ((([(1, (0 : Int), ([] : List UInt8), ([] : List UInt8), (0 : Int))] : List Nod), 0, ()), ()))
        (some ((([(2, (0 : Int), ([] : List UInt8), ([] : List UInt8), (0 : Int))] : List Nod), 0, ()), ())))
      (cond (v0.1 == (2 : Int))
        (some ((([(3, v0.1, ([] : List UInt8), v0.2.2.1, (0 : Int))] : List Nod), 0, ()), ()))
        (cond (v0.1 == (3 : Int))
          (some ((([(3, v0.1, ([] : List UInt8), v0.2.2.1, (0 : Int))] : List Nod), 0, ()), ()))
          ((loopO v_Term_s13 (v0, ([] : List Nod), (v0.2.2.2.1.length : Int), 0, ())).bind fun y2 =>
          cond (Ex.same y2.1 (Ex.exit 1))
            ((v_integer y2.2.1.2.2.1).bind fun r3 =>
            grd (decide (y2.2.2.1.length + ([(20, (0 : Int), ([] : List UInt8), ([] : List UInt8), 1), r3.1.1] : List Nod).length ≤ maxN)) (
              (loopO v_Term_s18 (y2.2.1, y2.2.2.1 ++ ([(20, (0 : Int), ([] : List UInt8), ([] : List UInt8), 1), r3.1.1] : List Nod), y2.2.1.2.2.2.1, (y2.2.1.2.2.2.1.length : Int), 0, ())).bind fun y4 =>
              cond (Ex.same y4.1 (Ex.exit 3))
                ((t_Valid y4.2.2.1).bind fun r5 =>
                cond (!r5.1.1)
                  (some ((([] : List Nod), 6, ()), ()))
                  (some ((y4.2.2.1, 0, ()), ())))
                (none)))
            (none)))))
def n_Num (a0 : List UInt8) : Option (((List UInt8) × Unit) × Unit) :=
  (n_Valid a0).bind fun r1 =>
  cond (!r1.1.1)
    (some ((([] : List UInt8), ()), ()))
    ((strings_Cut a0 ([47] : List UInt8)).bind fun r2 =>
    some ((r2.1.1, ()), ()))
def n_Den (a0 : List UInt8) : Option (((List UInt8) × Unit) × Unit) :=
  (n_Valid a0).bind fun r1 =>
  cond (!r1.1.1)
    (some ((([] : List UInt8), ()), ()))
    ((strings_Cut a0 ([47] : List UInt8)).bind fun r2 =>
    cond (r2.1.2.2.1)
      (some ((r2.1.2.1, ()), ()))
      (some ((([49] : List UInt8), ()), ())))
def t_numeralOf_F (t_numeralOfᵣ : Int → List UInt8 → Option (((List UInt8) × Unit) × Unit)) (sort0 : Int) (a1 : List UInt8) : Option (((List UInt8) × Unit) × Unit) :=
  (n_Sign a1).bind fun r1 =>
  cond (decide (r1.1.1 < (0 : Int)))
    ((n_Neg a1).bind fun r2 =>
    (t_numeralOfᵣ sort0 r2.1.1).bind fun r3 =>
    grd (decide (([40, 45, 32] : List UInt8).length + r3.1.1.length ≤ maxS)) (grd (decide ((([40, 45, 32] : List UInt8) ++ r3.1.1).length + ([41] : List UInt8).length ≤ maxS)) (some (((([40, 45, 32] : List UInt8) ++ r3.1.1) ++ ([41] : List UInt8), ()), ()))))
    (cond (sort0 == (2 : Int))
      (some ((a1, ()), ()))
      ((n_IsInt a1).bind fun r4 =>
      cond (r4.1.1)
        (grd (decide (a1.length + ([46, 48] : List UInt8).length ≤ maxS)) (some ((a1 ++ ([46, 48] : List UInt8), ()), ())))
        ((n_Num a1).bind fun r5 =>
        grd (decide (([40, 47, 32] : List UInt8).length + r5.1.1.length ≤ maxS)) (
          grd (decide ((([40, 47, 32] : List UInt8) ++ r5.1.1).length + ([46, 48, 32] : List UInt8).length ≤ maxS)) (
            (n_Den a1).bind fun r6 =>
            grd (decide (((([40, 47, 32] : List UInt8) ++ r5.1.1) ++ ([46, 48, 32] : List UInt8)).length + r6.1.1.length ≤ maxS)) (grd (decide ((((([40, 47, 32] : List UInt8) ++ r5.1.1) ++ ([46, 48, 32] : List UInt8)) ++ r6.1.1).length + ([46, 48, 41] : List UInt8).length ≤ maxS)) (some (((((([40, 47, 32] : List UInt8) ++ r5.1.1) ++ ([46, 48, 32] : List UInt8)) ++ r6.1.1) ++ ([46, 48, 41] : List UInt8), ()), ()))))))))
def t_numeralOf : Nat → Int → List UInt8 → Option (((List UInt8) × Unit) × Unit)
  | 0 => fun _ _ => none
  | n + 1 => t_numeralOf_F (t_numeralOf n)
def t_symbol (n0 : Nod) : Option (((List UInt8) × Unit) × Unit) :=
  cond (n0.1 == (6 : Int))
    (some ((([110, 111, 116] : List UInt8), ()), ()))
    (cond (n0.1 == (7 : Int))
      (some ((([97, 110, 100] : List UInt8), ()), ()))
      (cond (n0.1 == (8 : Int))
        (some ((([111, 114] : List UInt8), ()), ()))
        (cond (n0.1 == (9 : Int))
          (some ((([61, 62] : List UInt8), ()), ()))
          (cond (n0.1 == (10 : Int))
            (some ((([105, 116, 101] : List UInt8), ()), ()))
            (cond (n0.1 == (11 : Int))
              (some ((([61] : List UInt8), ()), ()))
              (cond (n0.1 == (12 : Int))
                (some ((([60, 61] : List UInt8), ()), ()))
                (cond (n0.1 == (13 : Int))
                  (some ((([60] : List UInt8), ()), ()))
                  (cond (n0.1 == (14 : Int))
                    (some ((([43] : List UInt8), ()), ()))
                    (cond (n0.1 == (15 : Int))
                      (some ((([42] : List UInt8), ()), ()))
                      (cond (n0.1 == (16 : Int))
                        (some ((([100, 105, 118] : List UInt8), ()), ()))
                        (cond (n0.1 == (17 : Int))
                          (some ((([109, 111, 100] : List UInt8), ()), ()))
                          (cond (n0.1 == (18 : Int))
                            (some ((([115, 101, 108, 101, 99, 116] : List UInt8), ()), ()))
                            (cond (n0.1 == (19 : Int))
                              (some ((([115, 116, 111, 114, 101] : List UInt8), ()), ()))
                              (cond (n0.1 == (20 : Int))
                                (some ((([99, 111, 110, 115, 116] : List UInt8), ()), ()))
                                (some ((n0.2.2.1, ()), ()))))))))))))))))
def strings_Builder_WriteByte (b0 : Unit × List Int) (c1 : Int) : Option ((Bool × Unit) × ((Unit × List Int) × Unit)) :=
  (strings_Builder_copyCheck ((), b0.2)).bind fun r1 =>
  grd (decide (r1.2.1.2.length + ([c1] : List Int).length ≤ maxN)) (some ((false, ()), ((), r1.2.1.2 ++ ([c1] : List Int)), ()))
def t_view_write_s4 (t_view_writeᵣ : Option View → (Unit × List Int) → Int → Option ((Unit) × ((Unit × List Int) × Unit))) (x : (Option View) × (Unit × List Int) × Nod × (List Int) × Int × Int × Unit) : Option (Ex × ((Option View) × (Unit × List Int) × Nod × (List Int) × Int × Int × Unit)) :=
  let v0 := x.1
  let b1 := x.2.1
  let n6 := x.2.2.1
  let t25 := x.2.2.2.1
  let t26 := x.2.2.2.2.1
  let t27 := x.2.2.2.2.2.1
  cond (decide (t27 < t26))
    (grd (decide (0 ≤ t27) && decide (t27 < t25.length)) (
      (strings_Builder_WriteByte ((), b1.2) 32).bind fun r1 =>
      (t_view_writeᵣ v0 ((), r1.2.1.2) (t25.getD t27.toNat (0 : Int))).bind fun r2 =>
      some (Ex.normal, (v0, ((), r2.2.1.2), n6, t25, t26, IntKind.i64.wrap (t27 + (1 : Int)), ()))))
    (some (Ex.exit 1, (v0, ((), b1.2), n6, t25, t26, t27, ())))
def t_view_write_F (t_view_writeᵣ : Option View → (Unit × List Int) → Int → Option ((Unit) × ((Unit × List Int) × Unit))) (v0 : Option View) (b1 : Unit × List Int) (i2 : Int) : Option ((Unit) × ((Unit × List Int) × Unit)) :=
  grd (v0.isSome) (
    grd (decide (0 ≤ i2) && decide (i2 < ((v0.getD zView).1).length)) (
      cond (((((v0.getD zView).1).getD i2.toNat zNod).1) == (1 : Int))
        ((strings_Builder_WriteString ((), b1.2) ([116, 114, 117, 101] : List UInt8)).bind fun r1 =>
        some ((), ((), r1.2.1.2), ()))
        (cond (((((v0.getD zView).1).getD i2.toNat zNod).1) == (2 : Int))
          ((strings_Builder_WriteString ((), b1.2) ([102, 97, 108, 115, 101] : List UInt8)).bind fun r2 =>
          some ((), ((), r2.2.1.2), ()))
          (cond (((((v0.getD zView).1).getD i2.toNat zNod).1) == (3 : Int))
            ((t_numeralOf big (((((v0.getD zView).1).getD i2.toNat zNod).2).1) (((((((v0.getD zView).1).getD i2.toNat zNod).2).2).2).1)).bind fun r3 =>
            (strings_Builder_WriteString ((), b1.2) r3.1.1).bind fun r4 =>
            some ((), ((), r4.2.1.2), ()))
            (cond (((((v0.getD zView).1).getD i2.toNat zNod).1) == (4 : Int))
              ((strings_Builder_WriteString ((), b1.2) ((((((v0.getD zView).1).getD i2.toNat zNod).2).2).1)).bind fun r5 =>
              some ((), ((), r5.2.1.2), ()))
              ((t_symbol (((v0.getD zView).1).getD i2.toNat zNod)).bind fun r6 =>
              grd (decide (([40] : List UInt8).length + r6.1.1.length ≤ maxS)) (
                (strings_Builder_WriteString ((), b1.2) (([40] : List UInt8) ++ r6.1.1)).bind fun r7 =>
                (t_view_kids v0 i2).bind fun r8 =>
                (loopO (t_view_write_s4 t_view_writeᵣ) (v0, ((), r7.2.1.2), ((v0.getD zView).1).getD i2.toNat zNod, r8.1.1, (r8.1.1.length : Int), 0, ())).bind fun y9 =>
                cond (Ex.same y9.1 (Ex.exit 1))
                  (cond (!(y9.2.2.2.1.2.2.2.1 == ([] : List UInt8)))
                    (grd (decide (([32] : List UInt8).length + y9.2.2.2.1.2.2.2.1.length ≤ maxS)) (
                      (strings_Builder_WriteString ((), y9.2.2.1.2) (([32] : List UInt8) ++ y9.2.2.2.1.2.2.2.1)).bind fun r10 =>
                      (strings_Builder_WriteByte ((), r10.2.1.2) 41).bind fun r11 =>
                      some ((), ((), r11.2.1.2), ())))
                    ((strings_Builder_WriteByte ((), y9.2.2.1.2) 41).bind fun r12 =>
                    some ((), ((), r12.2.1.2), ())))
                  (none))))))))
def t_view_write : Nat → Option View → (Unit × List Int) → Int → Option ((Unit) × ((Unit × List Int) × Unit))
  | 0 => fun _ _ _ => none
  | n + 1 => t_view_write_F (t_view_write n)
def t_Format (t0 : List Nod) : Option (((List UInt8) × Unit) × Unit) :=
  (t_known t0).bind fun r1 =>
  cond (!r1.1.2.1)
    (some ((([] : List UInt8), ()), ()))
    ((t_view_write big r1.1.1 ((), ([] : List Int)) 0).bind fun r2 =>
    (strings_Builder_String ((), r2.2.1.2)).bind fun r3 =>
    some ((r3.1.1, ()), ()))
def v_Format (v0 : Val) : Option (((List UInt8) × Unit) × Unit) :=
  (v_Term v0).bind fun r1 =>
  cond (r1.1.2.1 != (0 : Int))
    (some ((([] : List UInt8), ()), ()))
    ((t_Format r1.1.1).bind fun r2 =>
    some ((r2.1.1, ()), ()))
def l_awake : Option ((Bool × Unit) × Unit) :=
  (v_Zero 4).bind fun r1 =>
  (v_Store r1.1.1 ([51] : List UInt8) ([55] : List UInt8)).bind fun r2 =>
  (v_Store r2.1.1 ([51] : List UInt8) ([48] : List UInt8)).bind fun r3 =>
  (r_Num1 2 ([45, 55] : List UInt8)).bind fun r4 =>
  (r_Join (16, (0 : Int), ([] : List UInt8), ([50] : List UInt8), (0 : Int)) ([r4.1.1] : List (List Nod))).bind fun r5 =>
  (v_Eval r5.1.1 ([] : List Bind) ([] : List Interp)).bind fun r6 =>
  cond (r1.1.2.1 == (0 : Int))
    (cond (r2.1.2.1 == (0 : Int))
      (cond (r3.1.2.1 == (0 : Int))
        (cond (r6.1.2.1 == (0 : Int))
          (cond ((r2.1.1.2.2.2.1.length : Int) == (1 : Int))
            (grd (decide (0 ≤ (0 : Int)) && decide ((0 : Int) < r2.1.1.2.2.2.2.length)) (
              cond ((r2.1.1.2.2.2.2.getD (0 : Int).toNat ([] : List UInt8)) == ([55] : List UInt8))
                ((v_Equal r3.1.1 r1.1.1).bind fun r7 =>
                cond (r7.1.1)
                  (cond (r6.1.1.2.2.1 == ([45, 52] : List UInt8))
                    ((v_Format (4, false, ([49] : List UInt8), ([([45, 50] : List UInt8)] : List (List UInt8)), ([([53] : List UInt8)] : List (List UInt8)))).bind fun r8 =>
                    some ((r8.1.1 == ([40, 115, 116, 111, 114, 101, 32, 40, 99, 111, 110, 115, 116, 32, 49, 41, 32, 40, 45, 32, 50, 41, 32, 53, 41] : List UInt8), ()), ()))
                    (some ((false, ()), ())))
                  (some ((false, ()), ())))
                (some ((false, ()), ()))))
            (some ((false, ()), ())))
          (some ((false, ()), ())))
        (some ((false, ()), ())))
      (some ((false, ()), ())))
    (some ((false, ()), ()))
def l_ValueExtensional_s7 (x : Val × Val × Bool × (List (List UInt8)) × Int × Unit) : Option (Ex × (Val × Val × Bool × (List (List UInt8)) × Int × Unit)) :=
  let a5 := x.1
  let b6 := x.2.1
  let same7 := x.2.2.1
  let keys8 := x.2.2.2.1
  let i9 := x.2.2.2.2.1
  cond (decide (i9 < (keys8.length : Int)))
    (cond (same7)
      (grd (decide (0 ≤ i9) && decide (i9 < keys8.length)) (
        grd (decide (i9.toNat < keys8.length)) (
          (v_At a5 (keys8.getD i9.toNat ([] : List UInt8))).bind fun r1 =>
          grd (decide (0 ≤ i9) && decide (i9 < keys8.length)) (
            grd (decide (i9.toNat < keys8.length)) (
              (v_At b6 (keys8.getD i9.toNat ([] : List UInt8))).bind fun r2 =>
              some (Ex.normal, (a5, b6, r1.1.1 == r2.1.1, keys8, IntKind.i64.wrap (i9 + (1 : Int)), ())))))))
      (some (Ex.normal, (a5, b6, false, keys8, IntKind.i64.wrap (i9 + (1 : Int)), ()))))
    (some (Ex.exit 0, (a5, b6, same7, keys8, i9, ())))
def l_ValueExtensional (l0 : List Int) (m1 : List Int) : Option ((Bool × Unit) × Unit) :=
  (g_New l0).bind fun r1 =>
  (g_Choices_Value r1.1.1 4).bind fun r2 =>
  (g_New m1).bind fun r3 =>
  (g_Choices_Value r3.1.1 4).bind fun r4 =>
  cond (decide ((m1.length : Int) > (0 : Int)))
    (grd (decide (0 ≤ (0 : Int)) && decide ((0 : Int) < m1.length)) (
      (g_Mod (m1.getD (0 : Int).toNat (0 : Int)) 3).bind fun r5 =>
      cond (r5.1.1 == (0 : Int))
        ((g_New m1).bind fun r6 =>
        (g_Choices_Integer r6.1.1).bind fun r7 =>
        (r_Store r2.1.1 ([50] : List UInt8) r7.1.1).bind fun r8 =>
        grd (decide (r2.1.1.2.2.2.1.length ≤ maxN)) (
          grd (decide (r2.1.1.2.2.2.1.length + r8.1.1.2.2.2.1.length ≤ maxN)) (
            (loopO l_ValueExtensional_s7 (r2.1.1, r8.1.1, r2.1.1.2.2.1 == r8.1.1.2.2.1, r2.1.1.2.2.2.1 ++ r8.1.1.2.2.2.1, 0, ())).bind fun y9 =>
            cond (Ex.same y9.1 (Ex.exit 0))
              ((v_Equal y9.2.1 y9.2.2.1).bind fun r10 =>
              cond (r10.1.1 == y9.2.2.2.1)
                (l_awake.bind fun r11 =>
                some ((r11.1.1, ()), ()))
                (some ((false, ()), ())))
              (none))))
        (grd (decide (r2.1.1.2.2.2.1.length ≤ maxN)) (
          grd (decide (r2.1.1.2.2.2.1.length + r4.1.1.2.2.2.1.length ≤ maxN)) (
            (loopO l_ValueExtensional_s7 (r2.1.1, r4.1.1, r2.1.1.2.2.1 == r4.1.1.2.2.1, r2.1.1.2.2.2.1 ++ r4.1.1.2.2.2.1, 0, ())).bind fun y12 =>
            cond (Ex.same y12.1 (Ex.exit 0))
              ((v_Equal y12.2.1 y12.2.2.1).bind fun r13 =>
              cond (r13.1.1 == y12.2.2.2.1)
                (l_awake.bind fun r14 =>
                some ((r14.1.1, ()), ()))
                (some ((false, ()), ())))
              (none))))))
    (grd (decide (r2.1.1.2.2.2.1.length ≤ maxN)) (
      grd (decide (r2.1.1.2.2.2.1.length + r4.1.1.2.2.2.1.length ≤ maxN)) (
        (loopO l_ValueExtensional_s7 (r2.1.1, r4.1.1, r2.1.1.2.2.1 == r4.1.1.2.2.1, r2.1.1.2.2.2.1 ++ r4.1.1.2.2.2.1, 0, ())).bind fun y15 =>
        cond (Ex.same y15.1 (Ex.exit 0))
          ((v_Equal y15.2.1 y15.2.2.1).bind fun r16 =>
          cond (r16.1.1 == y15.2.2.2.1)
            (l_awake.bind fun r17 =>
            some ((r17.1.1, ()), ()))
            (some ((false, ()), ())))
          (none))))
end
end Go.AM.Num
end
section
namespace Go.AM
open Go.Proofs Go.RowKit
attribute [local go_sem] Oper.semAt_some

theorem rev_zip {xs : List Int} {k : Nat} (h : k < xs.length) : xs.zipIdx.reverse[k]? = some (xs[xs.length - 1 - k], xs.length - 1 - k) := by
  rw [List.getElem?_reverse (by simpa using h)]
  simp only [List.length_zipIdx, List.getElem?_zipIdx, Nat.zero_add]
  rw [List.getElem?_eq_getElem (by omega)]
  rfl

set_option maxHeartbeats 1000000 in
theorem back_in_194 (F : Fence) (n : Nat) (h : F.fn 194) (hro : F.round = none) (v : Value) (w : World) (hv : v.oneCell' = true) :
    CallsIn F n Tryz.prog 194 #[v] w fun e w' => e = .returned (.func (.func 247) #[] #[.pointer (some ⟨w.heap.size, 0, none⟩)]) ∧ ∃ ty, w' = w.alloc (.cells #[v] ty) := by
  cases v <;> (try (simp [Value.oneCell'] at hv; done))
  all_goals refine callsIn_of_wp Tryz.func194 rfl h ?_ hro
  all_goals simp only [Tryz.ntmps194, List.size_toArray, List.length_cons, List.length_nil, Nat.reduceAdd, Nat.reduceSub, Array.replicate_succ, Array.replicate_zero, List.push_toArray, List.append_toArray, List.nil_append, List.cons_append]
  all_goals gi_wp2
  all_goals go_ret
  all_goals exact ⟨rfl, _, rfl⟩
theorem backCall_194 : BackCall Tryz.prog 194 247 := by
  refine ⟨⟨_, Tryz.func194, by decide, rfl⟩, fun v w hv => (callsIn_wide (n := 0)).1 (CallsIn.mono (back_in_194 Fence.wide 0 trivial rfl v w hv) ?_)⟩
  rintro e w' ⟨rfl, ty, rfl⟩
  exact ⟨ty, rfl, Ext.alloc _ _, by simp, World.alloc_heap_new _ _⟩
set_option maxRecDepth 100000 in
set_option maxHeartbeats 2000000 in
theorem back1_in_247 (F : Fence) (n : Nat) (h8 : F.fn 247) (hro : F.round = none) (hn : 1 ≤ n) (Bs ob : Nat) (ad : Option Addr) (cap : Nat) (xs : List Int) (W : World) (l : Nat) (J : Nat → World → Prop) (hlen : xs.length ≤ 2 ^ 40) (hBs : W.cell? ⟨Bs, ob, none⟩ = some (.slice ad xs.length cap))
    (hcs : xs ≠ [] → ∃ b off, ad = some ⟨b, off, none⟩ ∧ ∀ (k : Nat) x, xs[k]? = some x → W.cell? ⟨b, off + k, none⟩ = some (.int .i64 x))
    (hY : ∀ (k : Nat) x W1, xs.zipIdx.reverse[k]? = some x → J k W1 → YieldAt F (n - 1) Tryz.prog l (encI .i64 x) W1 fun e W' => e = .returned (.bool true) ∧ J (k + 1) W' ∧ KeepsTwo Bs (ad.map (·.block)) W1 W') (h0 : J 0 W) :
    CallsIn F n Tryz.prog 247 #[.func (.yield l) #[] #[], .pointer (some ⟨Bs, ob, none⟩)] W fun e W' => (∃ v, e = .returned v) ∧ J xs.length W' := by
  refine callsIn_of_wp Tryz.func247 rfl h8 ?_ hro
  simp only [Tryz.ntmps247, List.size_toArray, List.length_cons, List.length_nil, Nat.reduceAdd, Nat.reduceSub, Array.replicate_succ, Array.replicate_zero, List.push_toArray, List.append_toArray, List.nil_append, List.cons_append]
  gi_wp2
  gi_loopw [3] (fun i wr => ∃ k : Nat, k ≤ xs.length ∧ i = .int .i64 ((xs.length : Int) - 1 - k) ∧ J k wr ∧ KeepsTwo Bs (ad.map (·.block)) W wr)
    (fun i _ => ((RowKit.intOf i) + 1).toNat)
  case atStart => exact ⟨0, Nat.zero_le _, by simp, h0, ⟨Nat.le_refl _, rfl, fun _ _ => rfl⟩⟩
  case round =>
    obtain ⟨k, hk, rfl, hJk, hnx⟩ := hrel
    by_cases hlt : k < xs.length
    · have hz := rev_zip hlt
      obtain ⟨fn, tmps, assign, body, hy, hR⟩ := hY k _ wr hz hJk
      dsimp only [encI] at hy
      have hix : ((xs.length - 1 - k : Nat) : Int) = (xs.length : Int) - 1 - k := by omega
      rw [hix] at hy
      have hBx : wr.cell? ⟨Bs, ob, none⟩ = some (.slice ad xs.length cap) := by rw [← hBs]; simp only [World.cell?, hnx.2.1]
      obtain ⟨b, off, rfl, hcell⟩ := hcs (by intro e; rw [e] at hlt; simp at hlt)
      have hcx : wr.cell? ⟨b, off + (xs.length - 1 - k), none⟩ = some (.int .i64 (xs[xs.length - 1 - k]'(by omega))) := by
        rw [← hcell (xs.length - 1 - k) _ (List.getElem?_eq_getElem (by omega))]
        simp only [World.cell?, hnx.2.2 b rfl]
      gi_wp2
      refine hR.mono ?_
      rintro e W3 ⟨rfl, hJ3, hk3⟩
      gi_wp2
      go_roundw
      case rel => exact ⟨k + 1, by omega, by simp; omega, hJ3, ⟨Nat.le_trans hnx.1 hk3.1, hk3.2.1.trans hnx.2.1, fun j hj => (hk3.2.2 j hj).trans (hnx.2.2 j hj)⟩⟩
      case measure => simp [RowKit.intOf]; omega
    · obtain rfl : k = xs.length := by omega
      gi_wp2
      go_end0
      exact ⟨⟨_, rfl⟩, hJk⟩
theorem backOK_247 : BackOK Tryz.prog 247 .i64 :=
  ⟨⟨_, Tryz.func247, by decide, rfl⟩, fun Bs ob ad cap xs W l J hlen hBs hcs hY h0 => (callsIn_wide (n := 0)).2 ((callsIn_wide (n := 1)).1 (back1_in_247 Fence.wide 1 trivial rfl (Nat.le_refl _) Bs ob ad cap xs W l J hlen hBs hcs hY h0))⟩

set_option maxHeartbeats 1000000 in
theorem back_in_205 (F : Fence) (n : Nat) (h : F.fn 205) (hro : F.round = none) (v : Value) (w : World) (hv : v.oneCell' = true) :
    CallsIn F n Tryz.prog 205 #[v] w fun e w' => e = .returned (.func (.func 260) #[] #[.pointer (some ⟨w.heap.size, 0, none⟩)]) ∧ ∃ ty, w' = w.alloc (.cells #[v] ty) := by
  cases v <;> (try (simp [Value.oneCell'] at hv; done))
  all_goals refine callsIn_of_wp Tryz.func205 rfl h ?_ hro
  all_goals simp only [Tryz.ntmps205, List.size_toArray, List.length_cons, List.length_nil, Nat.reduceAdd, Nat.reduceSub, Array.replicate_succ, Array.replicate_zero, List.push_toArray, List.append_toArray, List.nil_append, List.cons_append]
  all_goals gi_wp2
  all_goals go_ret
  all_goals exact ⟨rfl, _, rfl⟩
theorem backCall_205 : BackCall Tryz.prog 205 260 := by
  refine ⟨⟨_, Tryz.func205, by decide, rfl⟩, fun v w hv => (callsIn_wide (n := 0)).1 (CallsIn.mono (back_in_205 Fence.wide 0 trivial rfl v w hv) ?_)⟩
  rintro e w' ⟨rfl, ty, rfl⟩
  exact ⟨ty, rfl, Ext.alloc _ _, by simp, World.alloc_heap_new _ _⟩
set_option maxRecDepth 100000 in
set_option maxHeartbeats 2000000 in
theorem back1_in_260 (F : Fence) (n : Nat) (h8 : F.fn 260) (hro : F.round = none) (hn : 1 ≤ n) (Bs ob : Nat) (ad : Option Addr) (cap : Nat) (xs : List Int) (W : World) (l : Nat) (J : Nat → World → Prop) (hlen : xs.length ≤ 2 ^ 40) (hBs : W.cell? ⟨Bs, ob, none⟩ = some (.slice ad xs.length cap))
    (hcs : xs ≠ [] → ∃ b off, ad = some ⟨b, off, none⟩ ∧ ∀ (k : Nat) x, xs[k]? = some x → W.cell? ⟨b, off + k, none⟩ = some (.int .u32 x))
    (hY : ∀ (k : Nat) x W1, xs.zipIdx.reverse[k]? = some x → J k W1 → YieldAt F (n - 1) Tryz.prog l (encI .u32 x) W1 fun e W' => e = .returned (.bool true) ∧ J (k + 1) W' ∧ KeepsTwo Bs (ad.map (·.block)) W1 W') (h0 : J 0 W) :
    CallsIn F n Tryz.prog 260 #[.func (.yield l) #[] #[], .pointer (some ⟨Bs, ob, none⟩)] W fun e W' => (∃ v, e = .returned v) ∧ J xs.length W' := by
  refine callsIn_of_wp Tryz.func260 rfl h8 ?_ hro
  simp only [Tryz.ntmps260, List.size_toArray, List.length_cons, List.length_nil, Nat.reduceAdd, Nat.reduceSub, Array.replicate_succ, Array.replicate_zero, List.push_toArray, List.append_toArray, List.nil_append, List.cons_append]
  gi_wp2
  gi_loopw [3] (fun i wr => ∃ k : Nat, k ≤ xs.length ∧ i = .int .i64 ((xs.length : Int) - 1 - k) ∧ J k wr ∧ KeepsTwo Bs (ad.map (·.block)) W wr)
    (fun i _ => ((RowKit.intOf i) + 1).toNat)
  case atStart => exact ⟨0, Nat.zero_le _, by simp, h0, ⟨Nat.le_refl _, rfl, fun _ _ => rfl⟩⟩
  case round =>
    obtain ⟨k, hk, rfl, hJk, hnx⟩ := hrel
    by_cases hlt : k < xs.length
    · have hz := rev_zip hlt
      obtain ⟨fn, tmps, assign, body, hy, hR⟩ := hY k _ wr hz hJk
      dsimp only [encI] at hy
      have hix : ((xs.length - 1 - k : Nat) : Int) = (xs.length : Int) - 1 - k := by omega
      rw [hix] at hy
      have hBx : wr.cell? ⟨Bs, ob, none⟩ = some (.slice ad xs.length cap) := by rw [← hBs]; simp only [World.cell?, hnx.2.1]
      obtain ⟨b, off, rfl, hcell⟩ := hcs (by intro e; rw [e] at hlt; simp at hlt)
      have hcx : wr.cell? ⟨b, off + (xs.length - 1 - k), none⟩ = some (.int .u32 (xs[xs.length - 1 - k]'(by omega))) := by
        rw [← hcell (xs.length - 1 - k) _ (List.getElem?_eq_getElem (by omega))]
        simp only [World.cell?, hnx.2.2 b rfl]
      gi_wp2
      refine hR.mono ?_
      rintro e W3 ⟨rfl, hJ3, hk3⟩
      gi_wp2
      go_roundw
      case rel => exact ⟨k + 1, by omega, by simp; omega, hJ3, ⟨Nat.le_trans hnx.1 hk3.1, hk3.2.1.trans hnx.2.1, fun j hj => (hk3.2.2 j hj).trans (hnx.2.2 j hj)⟩⟩
      case measure => simp [RowKit.intOf]; omega
    · obtain rfl : k = xs.length := by omega
      gi_wp2
      go_end0
      exact ⟨⟨_, rfl⟩, hJk⟩
theorem backOK_260 : BackOK Tryz.prog 260 .u32 :=
  ⟨⟨_, Tryz.func260, by decide, rfl⟩, fun Bs ob ad cap xs W l J hlen hBs hcs hY h0 => (callsIn_wide (n := 0)).2 ((callsIn_wide (n := 1)).1 (back1_in_260 Fence.wide 1 trivial rfl (Nat.le_refl _) Bs ob ad cap xs W l J hlen hBs hcs hY h0))⟩
end Go.AM
end
