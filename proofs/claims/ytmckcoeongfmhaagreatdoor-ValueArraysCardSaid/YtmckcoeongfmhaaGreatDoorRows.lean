/-
  NARROWER THAN 'FOR EVERY INPUT', by the rows' own cells (each row's printed sentence says how): ValueShape: laid · ValueZero: laid · ValueEval: laid · ValueEvalRaw: laid · ValueFunctions: laid · ValueBoolean: laid · ValueArrays: laid · ValueStoreLaws: laid · ValueExtensional: laid · ValueSorts: laid · ValueArithmetic: laid · ValueText: laid.
  DERIVED. THE GIVEN ROWS OF THIS SEAT. 12 by the template 'for every input the law returns true; each argument reads behind the call as it read before'; 0 by the template 'total and deterministic' (their statements: YtmckcoeongfmhaaGreatDoorTotals.lean).
  GIVEN WITH THE SEED: the statements are not yours to turn. If you find one false, say at which input.
  Laid BY PROGRAM, IN A SANDBOX (cutbox-rows.mjs): the forced cells as the released guide's own fill.sh prints them over the translation 4f6020d7effb359c… (all of the seat's roots in one cut). By AI agents, Wed Nov 11 2026. No macro, syntax, notation, axiom, sorry.
-/
import Derived.Test.YtmckcoeongfmhaaGreatDoorChecked
import GoSem.PinnedTables
import GoSem.Claim
import GoSem.ClaimJoined
import GoSem.ClaimMapViews
import Derived.JoinedTies
import Derived.KernelRfl
namespace Go.Proofs.YtmckcoeongfmhaaGreatDoor
/- THE CELL 'sum', in the pinned program and in every row, IS THE sha256 OF THE DUMP (.gsa) THAT YtmckcoeongfmhaaGreatDoorProg.lean LOADS. Nothing in Lean hashes anything: it is a label: what it is worth is what the hold of that sum in a sandbox is worth. -/
noncomputable def Tryz.pinned : Pinned := { name := "ytmckcoeongfmhaagreatdoor", sum := "4f6020d7effb359ce6cc03b633e32114ebbf39780b65fa34d487001e98f556ba", checked := Tryz.checked }
namespace Rows
def none {H : Type} : Left H := { results := [], args := [] }

/- WHAT THE LISTED PACKAGE-LEVEL VARIABLES READ AS WHEN THE CALL BEGINS. Each datum BY PROGRAM (the guide's laid-datum.mjs) off the statement by which the dump's own 'gosem.cut.vars' lays the variable. In a bare row this is a premise. The card (YtmckcoeongfmhaaGreatDoorCards.lean) ties it to the program's text. -/
def laid_math_bits_deBruijn32tab {H : Type} : DataW H := .agg [.lit (.int .u8 0), .lit (.int .u8 1), .lit (.int .u8 28), .lit (.int .u8 2), .lit (.int .u8 29), .lit (.int .u8 14), .lit (.int .u8 24), .lit (.int .u8 3), .lit (.int .u8 30), .lit (.int .u8 22), .lit (.int .u8 20), .lit (.int .u8 15), .lit (.int .u8 25), .lit (.int .u8 17), .lit (.int .u8 4), .lit (.int .u8 8), .lit (.int .u8 31), .lit (.int .u8 27), .lit (.int .u8 13), .lit (.int .u8 23), .lit (.int .u8 21), .lit (.int .u8 19), .lit (.int .u8 16), .lit (.int .u8 7), .lit (.int .u8 26), .lit (.int .u8 12), .lit (.int .u8 18), .lit (.int .u8 6), .lit (.int .u8 11), .lit (.int .u8 5), .lit (.int .u8 10), .lit (.int .u8 9)]
def laid_math_bits_deBruijn64tab {H : Type} : DataW H := .agg [.lit (.int .u8 0), .lit (.int .u8 1), .lit (.int .u8 56), .lit (.int .u8 2), .lit (.int .u8 57), .lit (.int .u8 49), .lit (.int .u8 28), .lit (.int .u8 3), .lit (.int .u8 61), .lit (.int .u8 58), .lit (.int .u8 42), .lit (.int .u8 50), .lit (.int .u8 38), .lit (.int .u8 29), .lit (.int .u8 17), .lit (.int .u8 4), .lit (.int .u8 62), .lit (.int .u8 47), .lit (.int .u8 59), .lit (.int .u8 36), .lit (.int .u8 45), .lit (.int .u8 43), .lit (.int .u8 51), .lit (.int .u8 22), .lit (.int .u8 53), .lit (.int .u8 39), .lit (.int .u8 33), .lit (.int .u8 30), .lit (.int .u8 24), .lit (.int .u8 18), .lit (.int .u8 12), .lit (.int .u8 5), .lit (.int .u8 63), .lit (.int .u8 55), .lit (.int .u8 48), .lit (.int .u8 27), .lit (.int .u8 60), .lit (.int .u8 41), .lit (.int .u8 37), .lit (.int .u8 16), .lit (.int .u8 46), .lit (.int .u8 35), .lit (.int .u8 44), .lit (.int .u8 21), .lit (.int .u8 52), .lit (.int .u8 32), .lit (.int .u8 23), .lit (.int .u8 11), .lit (.int .u8 54), .lit (.int .u8 26), .lit (.int .u8 40), .lit (.int .u8 15), .lit (.int .u8 34), .lit (.int .u8 20), .lit (.int .u8 31), .lit (.int .u8 10), .lit (.int .u8 25), .lit (.int .u8 14), .lit (.int .u8 19), .lit (.int .u8 9), .lit (.int .u8 13), .lit (.int .u8 8), .lit (.int .u8 7), .lit (.int .u8 6)]
def laid_internal_strconv_uint64pow10 {H : Type} : DataW H := .agg [.lit (.int .u64 1), .lit (.int .u64 10), .lit (.int .u64 100), .lit (.int .u64 1000), .lit (.int .u64 10000), .lit (.int .u64 100000), .lit (.int .u64 1000000), .lit (.int .u64 10000000), .lit (.int .u64 100000000), .lit (.int .u64 1000000000), .lit (.int .u64 10000000000), .lit (.int .u64 100000000000), .lit (.int .u64 1000000000000), .lit (.int .u64 10000000000000), .lit (.int .u64 100000000000000), .lit (.int .u64 1000000000000000), .lit (.int .u64 10000000000000000), .lit (.int .u64 100000000000000000), .lit (.int .u64 1000000000000000000), .lit (.int .u64 10000000000000000000)]
def laid_strconv_ErrRange {H : Type} : DataW H := .iface "*errors.errorString" (.ptr (.agg [.lit (.string [118, 97, 108, 117, 101, 32, 111, 117, 116, 32, 111, 102, 32, 114, 97, 110, 103, 101])]))
def laid_strconv_ErrSyntax {H : Type} : DataW H := .iface "*errors.errorString" (.ptr (.agg [.lit (.string [105, 110, 118, 97, 108, 105, 100, 32, 115, 121, 110, 116, 97, 120])]))
def laid_unicode_utf8_acceptRanges {H : Type} : DataW H := .agg [.agg [.lit (.int .u8 128), .lit (.int .u8 191)], .agg [.lit (.int .u8 160), .lit (.int .u8 191)], .agg [.lit (.int .u8 128), .lit (.int .u8 159)], .agg [.lit (.int .u8 144), .lit (.int .u8 191)], .agg [.lit (.int .u8 128), .lit (.int .u8 143)], .agg [.lit (.int .u8 0), .lit (.int .u8 0)], .agg [.lit (.int .u8 0), .lit (.int .u8 0)], .agg [.lit (.int .u8 0), .lit (.int .u8 0)], .agg [.lit (.int .u8 0), .lit (.int .u8 0)], .agg [.lit (.int .u8 0), .lit (.int .u8 0)], .agg [.lit (.int .u8 0), .lit (.int .u8 0)], .agg [.lit (.int .u8 0), .lit (.int .u8 0)], .agg [.lit (.int .u8 0), .lit (.int .u8 0)], .agg [.lit (.int .u8 0), .lit (.int .u8 0)], .agg [.lit (.int .u8 0), .lit (.int .u8 0)], .agg [.lit (.int .u8 0), .lit (.int .u8 0)]]
/-- One of Go's own tables, pinned by name: the form's constant. -/
def laid_unicode_utf8_first : DataW Unit := Go.Pinned.utf8First

/-- 'chcsolverlaw04.ValueShape': WHATEVER THE INPUT: true; the input reads as it did. -/
def valueShapeSpec : ChangeSpec := { name := "valueShape", fn := fun _ => fun
  | [d1, d2, d3] => { results := [.lit (.bool true)], args := [d1, d2, d3] }
  | _ => none }
def valueShapeRow : OpenClaim := { program := "ytmckcoeongfmhaagreatdoor", sum := "4f6020d7effb359ce6cc03b633e32114ebbf39780b65fa34d487001e98f556ba", func := "chcsolver/chcsolverlaw04.ValueShape", spec := "valueShape", inPlace := ["internal/bytealg.IndexByteString", "internal/bytealg.IndexString", "internal/abi.NoEscape", "slices.overlaps[string]"], unfollowed := true, recurses := true, named := ["internal/bytealg.MaxLen", "strconv.ErrSyntax", "strconv.ErrRange", "internal/strconv.uint64pow10", "math/bits.deBruijn32tab", "math/bits.deBruijn64tab"], apart := false, laid := [("math/bits.deBruijn32tab", laid_math_bits_deBruijn32tab), ("math/bits.deBruijn64tab", laid_math_bits_deBruijn64tab), ("internal/strconv.uint64pow10", laid_internal_strconv_uint64pow10), ("strconv.ErrRange", laid_strconv_ErrRange), ("strconv.ErrSyntax", laid_strconv_ErrSyntax)] }
def ValueShapeSaid : Prop := valueShapeRow.holds Tryz.pinned (OpenSpec.ofChange valueShapeSpec)

/-- ITS FALSE NEIGHBOUR: 'it returns false'. Refute it at one input. -/
def valueShapeWrong : ChangeSpec := { name := "valueShape", fn := fun _ => fun
  | [d1, d2, d3] => { results := [.lit (.bool false)], args := [d1, d2, d3] }
  | _ => none }
def ValueShapeWrongFalsely : Prop := valueShapeRow.holds Tryz.pinned (OpenSpec.ofChange valueShapeWrong)

/-- 'chcsolverlaw04.ValueZero': WHATEVER THE INPUT: true; the input reads as it did. -/
def valueZeroSpec : ChangeSpec := { name := "valueZero", fn := fun _ => fun
  | [d] => { results := [.lit (.bool true)], args := [d] }
  | _ => none }
def valueZeroRow : OpenClaim := { program := "ytmckcoeongfmhaagreatdoor", sum := "4f6020d7effb359ce6cc03b633e32114ebbf39780b65fa34d487001e98f556ba", func := "chcsolver/chcsolverlaw04.ValueZero", spec := "valueZero", inPlace := ["internal/bytealg.IndexByteString", "internal/bytealg.IndexString", "internal/abi.NoEscape", "slices.overlaps[string]"], unfollowed := true, recurses := true, named := ["internal/bytealg.MaxLen", "strconv.ErrSyntax", "strconv.ErrRange", "internal/strconv.uint64pow10", "math/bits.deBruijn32tab", "math/bits.deBruijn64tab"], apart := false, laid := [("math/bits.deBruijn32tab", laid_math_bits_deBruijn32tab), ("math/bits.deBruijn64tab", laid_math_bits_deBruijn64tab), ("internal/strconv.uint64pow10", laid_internal_strconv_uint64pow10), ("strconv.ErrRange", laid_strconv_ErrRange), ("strconv.ErrSyntax", laid_strconv_ErrSyntax)] }
def ValueZeroSaid : Prop := valueZeroRow.holds Tryz.pinned (OpenSpec.ofChange valueZeroSpec)

/-- ITS FALSE NEIGHBOUR: 'it returns false'. Refute it at one input. -/
def valueZeroWrong : ChangeSpec := { name := "valueZero", fn := fun _ => fun
  | [d] => { results := [.lit (.bool false)], args := [d] }
  | _ => none }
def ValueZeroWrongFalsely : Prop := valueZeroRow.holds Tryz.pinned (OpenSpec.ofChange valueZeroWrong)

/-- 'chcsolverlaw04.ValueEval': WHATEVER THE INPUT: true; the input reads as it did. -/
def valueEvalSpec : ChangeSpec := { name := "valueEval", fn := fun _ => fun
  | [d1, d2, d3, d4] => { results := [.lit (.bool true)], args := [d1, d2, d3, d4] }
  | _ => none }
def valueEvalRow : OpenClaim := { program := "ytmckcoeongfmhaagreatdoor", sum := "4f6020d7effb359ce6cc03b633e32114ebbf39780b65fa34d487001e98f556ba", func := "chcsolver/chcsolverlaw04.ValueEval", spec := "valueEval", inPlace := ["internal/bytealg.IndexByteString", "internal/bytealg.IndexString", "internal/abi.NoEscape", "slices.overlaps[string]"], unfollowed := true, recurses := true, named := ["internal/bytealg.MaxLen", "strconv.ErrSyntax", "strconv.ErrRange", "internal/strconv.uint64pow10", "math/bits.deBruijn32tab", "math/bits.deBruijn64tab"], apart := false, laid := [("math/bits.deBruijn32tab", laid_math_bits_deBruijn32tab), ("math/bits.deBruijn64tab", laid_math_bits_deBruijn64tab), ("internal/strconv.uint64pow10", laid_internal_strconv_uint64pow10), ("strconv.ErrRange", laid_strconv_ErrRange), ("strconv.ErrSyntax", laid_strconv_ErrSyntax)] }
def ValueEvalSaid : Prop := valueEvalRow.holds Tryz.pinned (OpenSpec.ofChange valueEvalSpec)

/-- ITS FALSE NEIGHBOUR: 'it returns false'. Refute it at one input. -/
def valueEvalWrong : ChangeSpec := { name := "valueEval", fn := fun _ => fun
  | [d1, d2, d3, d4] => { results := [.lit (.bool false)], args := [d1, d2, d3, d4] }
  | _ => none }
def ValueEvalWrongFalsely : Prop := valueEvalRow.holds Tryz.pinned (OpenSpec.ofChange valueEvalWrong)

/-- 'chcsolverlaw04.ValueEvalRaw': WHATEVER THE INPUT: true; the input reads as it did. -/
def valueEvalRawSpec : ChangeSpec := { name := "valueEvalRaw", fn := fun _ => fun
  | [d1, d2, d3] => { results := [.lit (.bool true)], args := [d1, d2, d3] }
  | _ => none }
def valueEvalRawRow : OpenClaim := { program := "ytmckcoeongfmhaagreatdoor", sum := "4f6020d7effb359ce6cc03b633e32114ebbf39780b65fa34d487001e98f556ba", func := "chcsolver/chcsolverlaw04.ValueEvalRaw", spec := "valueEvalRaw", inPlace := ["internal/bytealg.IndexByteString", "internal/bytealg.IndexString", "internal/abi.NoEscape", "slices.overlaps[string]"], unfollowed := true, recurses := true, named := ["internal/bytealg.MaxLen", "strconv.ErrSyntax", "strconv.ErrRange", "internal/strconv.uint64pow10", "math/bits.deBruijn32tab", "math/bits.deBruijn64tab"], apart := false, laid := [("math/bits.deBruijn32tab", laid_math_bits_deBruijn32tab), ("math/bits.deBruijn64tab", laid_math_bits_deBruijn64tab), ("internal/strconv.uint64pow10", laid_internal_strconv_uint64pow10), ("strconv.ErrRange", laid_strconv_ErrRange), ("strconv.ErrSyntax", laid_strconv_ErrSyntax)] }
def ValueEvalRawSaid : Prop := valueEvalRawRow.holds Tryz.pinned (OpenSpec.ofChange valueEvalRawSpec)

/-- ITS FALSE NEIGHBOUR: 'it returns false'. Refute it at one input. -/
def valueEvalRawWrong : ChangeSpec := { name := "valueEvalRaw", fn := fun _ => fun
  | [d1, d2, d3] => { results := [.lit (.bool false)], args := [d1, d2, d3] }
  | _ => none }
def ValueEvalRawWrongFalsely : Prop := valueEvalRawRow.holds Tryz.pinned (OpenSpec.ofChange valueEvalRawWrong)

/-- 'chcsolverlaw04.ValueFunctions': WHATEVER THE INPUT: true; the input reads as it did. -/
def valueFunctionsSpec : ChangeSpec := { name := "valueFunctions", fn := fun _ => fun
  | [d1, d2, d3] => { results := [.lit (.bool true)], args := [d1, d2, d3] }
  | _ => none }
def valueFunctionsRow : OpenClaim := { program := "ytmckcoeongfmhaagreatdoor", sum := "4f6020d7effb359ce6cc03b633e32114ebbf39780b65fa34d487001e98f556ba", func := "chcsolver/chcsolverlaw04.ValueFunctions", spec := "valueFunctions", inPlace := ["internal/bytealg.IndexByteString", "internal/bytealg.IndexString", "internal/abi.NoEscape", "slices.overlaps[string]"], unfollowed := true, recurses := true, named := ["internal/bytealg.MaxLen", "strconv.ErrSyntax", "strconv.ErrRange", "internal/strconv.uint64pow10", "math/bits.deBruijn32tab", "math/bits.deBruijn64tab"], apart := false, laid := [("math/bits.deBruijn32tab", laid_math_bits_deBruijn32tab), ("math/bits.deBruijn64tab", laid_math_bits_deBruijn64tab), ("internal/strconv.uint64pow10", laid_internal_strconv_uint64pow10), ("strconv.ErrRange", laid_strconv_ErrRange), ("strconv.ErrSyntax", laid_strconv_ErrSyntax)] }
def ValueFunctionsSaid : Prop := valueFunctionsRow.holds Tryz.pinned (OpenSpec.ofChange valueFunctionsSpec)

/-- ITS FALSE NEIGHBOUR: 'it returns false'. Refute it at one input. -/
def valueFunctionsWrong : ChangeSpec := { name := "valueFunctions", fn := fun _ => fun
  | [d1, d2, d3] => { results := [.lit (.bool false)], args := [d1, d2, d3] }
  | _ => none }
def ValueFunctionsWrongFalsely : Prop := valueFunctionsRow.holds Tryz.pinned (OpenSpec.ofChange valueFunctionsWrong)

/-- 'chcsolverlaw04.ValueBoolean': WHATEVER THE INPUT: true; the input reads as it did. -/
def valueBooleanSpec : ChangeSpec := { name := "valueBoolean", fn := fun _ => fun
  | [d1, d2] => { results := [.lit (.bool true)], args := [d1, d2] }
  | _ => none }
def valueBooleanRow : OpenClaim := { program := "ytmckcoeongfmhaagreatdoor", sum := "4f6020d7effb359ce6cc03b633e32114ebbf39780b65fa34d487001e98f556ba", func := "chcsolver/chcsolverlaw04.ValueBoolean", spec := "valueBoolean", inPlace := ["internal/bytealg.IndexByteString", "internal/bytealg.IndexString", "internal/abi.NoEscape", "slices.overlaps[string]"], unfollowed := true, recurses := true, named := ["internal/bytealg.MaxLen", "strconv.ErrSyntax", "strconv.ErrRange", "internal/strconv.uint64pow10", "math/bits.deBruijn32tab", "math/bits.deBruijn64tab"], apart := false, laid := [("math/bits.deBruijn32tab", laid_math_bits_deBruijn32tab), ("math/bits.deBruijn64tab", laid_math_bits_deBruijn64tab), ("internal/strconv.uint64pow10", laid_internal_strconv_uint64pow10), ("strconv.ErrRange", laid_strconv_ErrRange), ("strconv.ErrSyntax", laid_strconv_ErrSyntax)] }
def ValueBooleanSaid : Prop := valueBooleanRow.holds Tryz.pinned (OpenSpec.ofChange valueBooleanSpec)

/-- ITS FALSE NEIGHBOUR: 'it returns false'. Refute it at one input. -/
def valueBooleanWrong : ChangeSpec := { name := "valueBoolean", fn := fun _ => fun
  | [d1, d2] => { results := [.lit (.bool false)], args := [d1, d2] }
  | _ => none }
def ValueBooleanWrongFalsely : Prop := valueBooleanRow.holds Tryz.pinned (OpenSpec.ofChange valueBooleanWrong)

/-- 'chcsolverlaw04.ValueArrays': WHATEVER THE INPUT: true; the input reads as it did. -/
def valueArraysSpec : ChangeSpec := { name := "valueArrays", fn := fun _ => fun
  | [d1, d2, d3, d4, d5] => { results := [.lit (.bool true)], args := [d1, d2, d3, d4, d5] }
  | _ => none }
def valueArraysRow : OpenClaim := { program := "ytmckcoeongfmhaagreatdoor", sum := "4f6020d7effb359ce6cc03b633e32114ebbf39780b65fa34d487001e98f556ba", func := "chcsolver/chcsolverlaw04.ValueArrays", spec := "valueArrays", inPlace := ["internal/bytealg.IndexByteString", "internal/bytealg.IndexString", "internal/abi.NoEscape", "slices.overlaps[string]"], unfollowed := true, recurses := true, named := ["internal/bytealg.MaxLen", "strconv.ErrSyntax", "strconv.ErrRange", "internal/strconv.uint64pow10", "math/bits.deBruijn32tab", "math/bits.deBruijn64tab"], apart := false, laid := [("math/bits.deBruijn32tab", laid_math_bits_deBruijn32tab), ("math/bits.deBruijn64tab", laid_math_bits_deBruijn64tab), ("internal/strconv.uint64pow10", laid_internal_strconv_uint64pow10), ("strconv.ErrRange", laid_strconv_ErrRange), ("strconv.ErrSyntax", laid_strconv_ErrSyntax)] }
def ValueArraysSaid : Prop := valueArraysRow.holds Tryz.pinned (OpenSpec.ofChange valueArraysSpec)

/-- ITS FALSE NEIGHBOUR: 'it returns false'. Refute it at one input. -/
def valueArraysWrong : ChangeSpec := { name := "valueArrays", fn := fun _ => fun
  | [d1, d2, d3, d4, d5] => { results := [.lit (.bool false)], args := [d1, d2, d3, d4, d5] }
  | _ => none }
def ValueArraysWrongFalsely : Prop := valueArraysRow.holds Tryz.pinned (OpenSpec.ofChange valueArraysWrong)

/-- 'chcsolverlaw04.ValueStoreLaws': WHATEVER THE INPUT: true; the input reads as it did. -/
def valueStoreLawsSpec : ChangeSpec := { name := "valueStoreLaws", fn := fun _ => fun
  | [d] => { results := [.lit (.bool true)], args := [d] }
  | _ => none }
def valueStoreLawsRow : OpenClaim := { program := "ytmckcoeongfmhaagreatdoor", sum := "4f6020d7effb359ce6cc03b633e32114ebbf39780b65fa34d487001e98f556ba", func := "chcsolver/chcsolverlaw04.ValueStoreLaws", spec := "valueStoreLaws", inPlace := ["internal/bytealg.IndexByteString", "internal/bytealg.IndexString", "internal/abi.NoEscape", "slices.overlaps[string]"], unfollowed := true, recurses := true, named := ["internal/bytealg.MaxLen", "strconv.ErrSyntax", "strconv.ErrRange", "internal/strconv.uint64pow10", "math/bits.deBruijn32tab", "math/bits.deBruijn64tab"], apart := false, laid := [("math/bits.deBruijn32tab", laid_math_bits_deBruijn32tab), ("math/bits.deBruijn64tab", laid_math_bits_deBruijn64tab), ("internal/strconv.uint64pow10", laid_internal_strconv_uint64pow10), ("strconv.ErrRange", laid_strconv_ErrRange), ("strconv.ErrSyntax", laid_strconv_ErrSyntax)] }
def ValueStoreLawsSaid : Prop := valueStoreLawsRow.holds Tryz.pinned (OpenSpec.ofChange valueStoreLawsSpec)

/-- ITS FALSE NEIGHBOUR: 'it returns false'. Refute it at one input. -/
def valueStoreLawsWrong : ChangeSpec := { name := "valueStoreLaws", fn := fun _ => fun
  | [d] => { results := [.lit (.bool false)], args := [d] }
  | _ => none }
def ValueStoreLawsWrongFalsely : Prop := valueStoreLawsRow.holds Tryz.pinned (OpenSpec.ofChange valueStoreLawsWrong)

/-- 'chcsolverlaw04.ValueExtensional': WHATEVER THE INPUT: true; the input reads as it did. -/
def valueExtensionalSpec : ChangeSpec := { name := "valueExtensional", fn := fun _ => fun
  | [d1, d2] => { results := [.lit (.bool true)], args := [d1, d2] }
  | _ => none }
def valueExtensionalRow : OpenClaim := { program := "ytmckcoeongfmhaagreatdoor", sum := "4f6020d7effb359ce6cc03b633e32114ebbf39780b65fa34d487001e98f556ba", func := "chcsolver/chcsolverlaw04.ValueExtensional", spec := "valueExtensional", inPlace := ["internal/bytealg.IndexByteString", "internal/bytealg.IndexString", "internal/abi.NoEscape", "slices.overlaps[string]"], unfollowed := true, recurses := true, named := ["internal/bytealg.MaxLen", "strconv.ErrSyntax", "strconv.ErrRange", "internal/strconv.uint64pow10", "math/bits.deBruijn32tab", "math/bits.deBruijn64tab"], apart := false, laid := [("math/bits.deBruijn32tab", laid_math_bits_deBruijn32tab), ("math/bits.deBruijn64tab", laid_math_bits_deBruijn64tab), ("internal/strconv.uint64pow10", laid_internal_strconv_uint64pow10), ("strconv.ErrRange", laid_strconv_ErrRange), ("strconv.ErrSyntax", laid_strconv_ErrSyntax)] }
def ValueExtensionalSaid : Prop := valueExtensionalRow.holds Tryz.pinned (OpenSpec.ofChange valueExtensionalSpec)

/-- ITS FALSE NEIGHBOUR: 'it returns false'. Refute it at one input. -/
def valueExtensionalWrong : ChangeSpec := { name := "valueExtensional", fn := fun _ => fun
  | [d1, d2] => { results := [.lit (.bool false)], args := [d1, d2] }
  | _ => none }
def ValueExtensionalWrongFalsely : Prop := valueExtensionalRow.holds Tryz.pinned (OpenSpec.ofChange valueExtensionalWrong)

/-- 'chcsolverlaw04.ValueSorts': WHATEVER THE INPUT: true; the input reads as it did. -/
def valueSortsSpec : ChangeSpec := { name := "valueSorts", fn := fun _ => fun
  | [d1, d2, d3] => { results := [.lit (.bool true)], args := [d1, d2, d3] }
  | _ => none }
def valueSortsRow : OpenClaim := { program := "ytmckcoeongfmhaagreatdoor", sum := "4f6020d7effb359ce6cc03b633e32114ebbf39780b65fa34d487001e98f556ba", func := "chcsolver/chcsolverlaw04.ValueSorts", spec := "valueSorts", inPlace := ["internal/bytealg.IndexByteString", "internal/bytealg.IndexString", "internal/abi.NoEscape", "slices.overlaps[string]"], unfollowed := true, recurses := true, named := ["internal/bytealg.MaxLen", "strconv.ErrSyntax", "strconv.ErrRange", "internal/strconv.uint64pow10", "math/bits.deBruijn32tab", "math/bits.deBruijn64tab"], apart := false, laid := [("math/bits.deBruijn32tab", laid_math_bits_deBruijn32tab), ("math/bits.deBruijn64tab", laid_math_bits_deBruijn64tab), ("internal/strconv.uint64pow10", laid_internal_strconv_uint64pow10), ("strconv.ErrRange", laid_strconv_ErrRange), ("strconv.ErrSyntax", laid_strconv_ErrSyntax)] }
def ValueSortsSaid : Prop := valueSortsRow.holds Tryz.pinned (OpenSpec.ofChange valueSortsSpec)

/-- ITS FALSE NEIGHBOUR: 'it returns false'. Refute it at one input. -/
def valueSortsWrong : ChangeSpec := { name := "valueSorts", fn := fun _ => fun
  | [d1, d2, d3] => { results := [.lit (.bool false)], args := [d1, d2, d3] }
  | _ => none }
def ValueSortsWrongFalsely : Prop := valueSortsRow.holds Tryz.pinned (OpenSpec.ofChange valueSortsWrong)

/-- 'chcsolverlaw04.ValueArithmetic': WHATEVER THE INPUT: true; the input reads as it did. -/
def valueArithmeticSpec : ChangeSpec := { name := "valueArithmetic", fn := fun _ => fun
  | [d1, d2] => { results := [.lit (.bool true)], args := [d1, d2] }
  | _ => none }
def valueArithmeticRow : OpenClaim := { program := "ytmckcoeongfmhaagreatdoor", sum := "4f6020d7effb359ce6cc03b633e32114ebbf39780b65fa34d487001e98f556ba", func := "chcsolver/chcsolverlaw04.ValueArithmetic", spec := "valueArithmetic", inPlace := ["internal/bytealg.IndexByteString", "internal/bytealg.IndexString", "internal/abi.NoEscape", "slices.overlaps[string]"], unfollowed := true, recurses := true, named := ["internal/bytealg.MaxLen", "strconv.ErrSyntax", "strconv.ErrRange", "internal/strconv.uint64pow10", "math/bits.deBruijn32tab", "math/bits.deBruijn64tab"], apart := false, laid := [("math/bits.deBruijn32tab", laid_math_bits_deBruijn32tab), ("math/bits.deBruijn64tab", laid_math_bits_deBruijn64tab), ("internal/strconv.uint64pow10", laid_internal_strconv_uint64pow10), ("strconv.ErrRange", laid_strconv_ErrRange), ("strconv.ErrSyntax", laid_strconv_ErrSyntax)] }
def ValueArithmeticSaid : Prop := valueArithmeticRow.holds Tryz.pinned (OpenSpec.ofChange valueArithmeticSpec)

/-- ITS FALSE NEIGHBOUR: 'it returns false'. Refute it at one input. -/
def valueArithmeticWrong : ChangeSpec := { name := "valueArithmetic", fn := fun _ => fun
  | [d1, d2] => { results := [.lit (.bool false)], args := [d1, d2] }
  | _ => none }
def ValueArithmeticWrongFalsely : Prop := valueArithmeticRow.holds Tryz.pinned (OpenSpec.ofChange valueArithmeticWrong)

/-- 'chcsolverlaw04.ValueText': WHATEVER THE INPUT: true; the input reads as it did. -/
def valueTextSpec : ChangeSpec := { name := "valueText", fn := fun _ => fun
  | [d1, d2, d3] => { results := [.lit (.bool true)], args := [d1, d2, d3] }
  | _ => none }
def valueTextRow : OpenClaim := { program := "ytmckcoeongfmhaagreatdoor", sum := "4f6020d7effb359ce6cc03b633e32114ebbf39780b65fa34d487001e98f556ba", func := "chcsolver/chcsolverlaw04.ValueText", spec := "valueText", inPlace := ["internal/bytealg.IndexByteString", "internal/bytealg.IndexString", "internal/abi.NoEscape", "slices.overlaps[string]", "internal/bytealg.MakeNoZero"], unfollowed := true, recurses := true, named := ["internal/bytealg.MaxLen", "strconv.ErrSyntax", "strconv.ErrRange", "internal/strconv.uint64pow10", "math/bits.deBruijn32tab", "math/bits.deBruijn64tab", "unicode/utf8.first", "unicode/utf8.acceptRanges"], apart := false, laid := [("math/bits.deBruijn32tab", laid_math_bits_deBruijn32tab), ("math/bits.deBruijn64tab", laid_math_bits_deBruijn64tab), ("internal/strconv.uint64pow10", laid_internal_strconv_uint64pow10), ("unicode/utf8.acceptRanges", laid_unicode_utf8_acceptRanges), ("strconv.ErrRange", laid_strconv_ErrRange), ("strconv.ErrSyntax", laid_strconv_ErrSyntax), ("unicode/utf8.first", laid_unicode_utf8_first)] }
def ValueTextSaid : Prop := valueTextRow.holds Tryz.pinned (OpenSpec.ofChange valueTextSpec)

/-- ITS FALSE NEIGHBOUR: 'it returns false'. Refute it at one input. -/
def valueTextWrong : ChangeSpec := { name := "valueText", fn := fun _ => fun
  | [d1, d2, d3] => { results := [.lit (.bool false)], args := [d1, d2, d3] }
  | _ => none }
def ValueTextWrongFalsely : Prop := valueTextRow.holds Tryz.pinned (OpenSpec.ofChange valueTextWrong)

/- THE SECOND FORM. 'bulk': how many values and letters a reading holds, each counted each time it is reached (what is shared counts as often as it is met; a slice's spare places count too). A statement '..UptoSaid' is the law's where the arguments, and the package variables that the reading takes, are together of bulk at most 1048576: NARROWER than '..Said'. Prove '..Said' where nothing that the law and all that it calls make is longer than what came in: it says more and counts as full. Else prove '..UptoSaid'. A law counts once. -/
mutual
def uptoBulk {H : Type} : DataW H → Nat
  | .lit (.string bytes) => bytes.length + 1
  | .lit _ => 1
  | .nil => 1
  | .ptr d => uptoBulk d + 1
  | .slice elems spare => uptoBulkAll elems + uptoBulkAll spare + 1
  | .agg parts => uptoBulkAll parts + 1
  | .iface _ d => uptoBulk d + 1
  | .map entries => uptoBulkEntries entries + 1
  | .held _ => 1
def uptoBulkAll {H : Type} : List (DataW H) → Nat
  | [] => 0
  | d :: r => uptoBulk d + uptoBulkAll r
def uptoBulkEntries {H : Type} : List (Lit × DataW H) → Nat
  | [] => 0
  | x :: r => uptoBulkEntry x + uptoBulkEntries r
def uptoBulkEntry {H : Type} : Lit × DataW H → Nat
  | (.string bytes, d) => bytes.length + uptoBulk d + 1
  | (_, d) => uptoBulk d + 1
 end
def uptoSmall : (H : Type) → List (DataW H) → Bool := fun _ ds => decide (uptoBulkAll ds ≤ 1048576)
def OpenSpec.upto (s : _root_.Go.ChangeSpec) : _root_.Go.OpenSpec := { _root_.Go.OpenSpec.ofChange s with cond := some uptoSmall }

/-- 'chcsolverlaw04.ValueShape', WHERE WHAT IT READS IS OF BULK AT MOST 1048576: true; the input reads as it did. -/
def valueShapeUptoRow : OpenClaim := { program := "ytmckcoeongfmhaagreatdoor", sum := "4f6020d7effb359ce6cc03b633e32114ebbf39780b65fa34d487001e98f556ba", func := "chcsolver/chcsolverlaw04.ValueShape", spec := "valueShape", inPlace := ["internal/bytealg.IndexByteString", "internal/bytealg.IndexString", "internal/abi.NoEscape", "slices.overlaps[string]"], unfollowed := true, recurses := true, named := ["internal/bytealg.MaxLen", "strconv.ErrSyntax", "strconv.ErrRange", "internal/strconv.uint64pow10", "math/bits.deBruijn32tab", "math/bits.deBruijn64tab"], apart := false, laid := [("math/bits.deBruijn32tab", laid_math_bits_deBruijn32tab), ("math/bits.deBruijn64tab", laid_math_bits_deBruijn64tab), ("internal/strconv.uint64pow10", laid_internal_strconv_uint64pow10), ("strconv.ErrRange", laid_strconv_ErrRange), ("strconv.ErrSyntax", laid_strconv_ErrSyntax)], narrowed := true }
def ValueShapeUptoSaid : Prop := valueShapeUptoRow.holds Tryz.pinned (OpenSpec.upto valueShapeSpec)

/-- 'chcsolverlaw04.ValueZero', WHERE WHAT IT READS IS OF BULK AT MOST 1048576: true; the input reads as it did. -/
def valueZeroUptoRow : OpenClaim := { program := "ytmckcoeongfmhaagreatdoor", sum := "4f6020d7effb359ce6cc03b633e32114ebbf39780b65fa34d487001e98f556ba", func := "chcsolver/chcsolverlaw04.ValueZero", spec := "valueZero", inPlace := ["internal/bytealg.IndexByteString", "internal/bytealg.IndexString", "internal/abi.NoEscape", "slices.overlaps[string]"], unfollowed := true, recurses := true, named := ["internal/bytealg.MaxLen", "strconv.ErrSyntax", "strconv.ErrRange", "internal/strconv.uint64pow10", "math/bits.deBruijn32tab", "math/bits.deBruijn64tab"], apart := false, laid := [("math/bits.deBruijn32tab", laid_math_bits_deBruijn32tab), ("math/bits.deBruijn64tab", laid_math_bits_deBruijn64tab), ("internal/strconv.uint64pow10", laid_internal_strconv_uint64pow10), ("strconv.ErrRange", laid_strconv_ErrRange), ("strconv.ErrSyntax", laid_strconv_ErrSyntax)], narrowed := true }
def ValueZeroUptoSaid : Prop := valueZeroUptoRow.holds Tryz.pinned (OpenSpec.upto valueZeroSpec)

/-- 'chcsolverlaw04.ValueEval', WHERE WHAT IT READS IS OF BULK AT MOST 1048576: true; the input reads as it did. -/
def valueEvalUptoRow : OpenClaim := { program := "ytmckcoeongfmhaagreatdoor", sum := "4f6020d7effb359ce6cc03b633e32114ebbf39780b65fa34d487001e98f556ba", func := "chcsolver/chcsolverlaw04.ValueEval", spec := "valueEval", inPlace := ["internal/bytealg.IndexByteString", "internal/bytealg.IndexString", "internal/abi.NoEscape", "slices.overlaps[string]"], unfollowed := true, recurses := true, named := ["internal/bytealg.MaxLen", "strconv.ErrSyntax", "strconv.ErrRange", "internal/strconv.uint64pow10", "math/bits.deBruijn32tab", "math/bits.deBruijn64tab"], apart := false, laid := [("math/bits.deBruijn32tab", laid_math_bits_deBruijn32tab), ("math/bits.deBruijn64tab", laid_math_bits_deBruijn64tab), ("internal/strconv.uint64pow10", laid_internal_strconv_uint64pow10), ("strconv.ErrRange", laid_strconv_ErrRange), ("strconv.ErrSyntax", laid_strconv_ErrSyntax)], narrowed := true }
def ValueEvalUptoSaid : Prop := valueEvalUptoRow.holds Tryz.pinned (OpenSpec.upto valueEvalSpec)

/-- 'chcsolverlaw04.ValueEvalRaw', WHERE WHAT IT READS IS OF BULK AT MOST 1048576: true; the input reads as it did. -/
def valueEvalRawUptoRow : OpenClaim := { program := "ytmckcoeongfmhaagreatdoor", sum := "4f6020d7effb359ce6cc03b633e32114ebbf39780b65fa34d487001e98f556ba", func := "chcsolver/chcsolverlaw04.ValueEvalRaw", spec := "valueEvalRaw", inPlace := ["internal/bytealg.IndexByteString", "internal/bytealg.IndexString", "internal/abi.NoEscape", "slices.overlaps[string]"], unfollowed := true, recurses := true, named := ["internal/bytealg.MaxLen", "strconv.ErrSyntax", "strconv.ErrRange", "internal/strconv.uint64pow10", "math/bits.deBruijn32tab", "math/bits.deBruijn64tab"], apart := false, laid := [("math/bits.deBruijn32tab", laid_math_bits_deBruijn32tab), ("math/bits.deBruijn64tab", laid_math_bits_deBruijn64tab), ("internal/strconv.uint64pow10", laid_internal_strconv_uint64pow10), ("strconv.ErrRange", laid_strconv_ErrRange), ("strconv.ErrSyntax", laid_strconv_ErrSyntax)], narrowed := true }
def ValueEvalRawUptoSaid : Prop := valueEvalRawUptoRow.holds Tryz.pinned (OpenSpec.upto valueEvalRawSpec)

/-- 'chcsolverlaw04.ValueFunctions', WHERE WHAT IT READS IS OF BULK AT MOST 1048576: true; the input reads as it did. -/
def valueFunctionsUptoRow : OpenClaim := { program := "ytmckcoeongfmhaagreatdoor", sum := "4f6020d7effb359ce6cc03b633e32114ebbf39780b65fa34d487001e98f556ba", func := "chcsolver/chcsolverlaw04.ValueFunctions", spec := "valueFunctions", inPlace := ["internal/bytealg.IndexByteString", "internal/bytealg.IndexString", "internal/abi.NoEscape", "slices.overlaps[string]"], unfollowed := true, recurses := true, named := ["internal/bytealg.MaxLen", "strconv.ErrSyntax", "strconv.ErrRange", "internal/strconv.uint64pow10", "math/bits.deBruijn32tab", "math/bits.deBruijn64tab"], apart := false, laid := [("math/bits.deBruijn32tab", laid_math_bits_deBruijn32tab), ("math/bits.deBruijn64tab", laid_math_bits_deBruijn64tab), ("internal/strconv.uint64pow10", laid_internal_strconv_uint64pow10), ("strconv.ErrRange", laid_strconv_ErrRange), ("strconv.ErrSyntax", laid_strconv_ErrSyntax)], narrowed := true }
def ValueFunctionsUptoSaid : Prop := valueFunctionsUptoRow.holds Tryz.pinned (OpenSpec.upto valueFunctionsSpec)

/-- 'chcsolverlaw04.ValueBoolean', WHERE WHAT IT READS IS OF BULK AT MOST 1048576: true; the input reads as it did. -/
def valueBooleanUptoRow : OpenClaim := { program := "ytmckcoeongfmhaagreatdoor", sum := "4f6020d7effb359ce6cc03b633e32114ebbf39780b65fa34d487001e98f556ba", func := "chcsolver/chcsolverlaw04.ValueBoolean", spec := "valueBoolean", inPlace := ["internal/bytealg.IndexByteString", "internal/bytealg.IndexString", "internal/abi.NoEscape", "slices.overlaps[string]"], unfollowed := true, recurses := true, named := ["internal/bytealg.MaxLen", "strconv.ErrSyntax", "strconv.ErrRange", "internal/strconv.uint64pow10", "math/bits.deBruijn32tab", "math/bits.deBruijn64tab"], apart := false, laid := [("math/bits.deBruijn32tab", laid_math_bits_deBruijn32tab), ("math/bits.deBruijn64tab", laid_math_bits_deBruijn64tab), ("internal/strconv.uint64pow10", laid_internal_strconv_uint64pow10), ("strconv.ErrRange", laid_strconv_ErrRange), ("strconv.ErrSyntax", laid_strconv_ErrSyntax)], narrowed := true }
def ValueBooleanUptoSaid : Prop := valueBooleanUptoRow.holds Tryz.pinned (OpenSpec.upto valueBooleanSpec)

/-- 'chcsolverlaw04.ValueArrays', WHERE WHAT IT READS IS OF BULK AT MOST 1048576: true; the input reads as it did. -/
def valueArraysUptoRow : OpenClaim := { program := "ytmckcoeongfmhaagreatdoor", sum := "4f6020d7effb359ce6cc03b633e32114ebbf39780b65fa34d487001e98f556ba", func := "chcsolver/chcsolverlaw04.ValueArrays", spec := "valueArrays", inPlace := ["internal/bytealg.IndexByteString", "internal/bytealg.IndexString", "internal/abi.NoEscape", "slices.overlaps[string]"], unfollowed := true, recurses := true, named := ["internal/bytealg.MaxLen", "strconv.ErrSyntax", "strconv.ErrRange", "internal/strconv.uint64pow10", "math/bits.deBruijn32tab", "math/bits.deBruijn64tab"], apart := false, laid := [("math/bits.deBruijn32tab", laid_math_bits_deBruijn32tab), ("math/bits.deBruijn64tab", laid_math_bits_deBruijn64tab), ("internal/strconv.uint64pow10", laid_internal_strconv_uint64pow10), ("strconv.ErrRange", laid_strconv_ErrRange), ("strconv.ErrSyntax", laid_strconv_ErrSyntax)], narrowed := true }
def ValueArraysUptoSaid : Prop := valueArraysUptoRow.holds Tryz.pinned (OpenSpec.upto valueArraysSpec)

/-- 'chcsolverlaw04.ValueStoreLaws', WHERE WHAT IT READS IS OF BULK AT MOST 1048576: true; the input reads as it did. -/
def valueStoreLawsUptoRow : OpenClaim := { program := "ytmckcoeongfmhaagreatdoor", sum := "4f6020d7effb359ce6cc03b633e32114ebbf39780b65fa34d487001e98f556ba", func := "chcsolver/chcsolverlaw04.ValueStoreLaws", spec := "valueStoreLaws", inPlace := ["internal/bytealg.IndexByteString", "internal/bytealg.IndexString", "internal/abi.NoEscape", "slices.overlaps[string]"], unfollowed := true, recurses := true, named := ["internal/bytealg.MaxLen", "strconv.ErrSyntax", "strconv.ErrRange", "internal/strconv.uint64pow10", "math/bits.deBruijn32tab", "math/bits.deBruijn64tab"], apart := false, laid := [("math/bits.deBruijn32tab", laid_math_bits_deBruijn32tab), ("math/bits.deBruijn64tab", laid_math_bits_deBruijn64tab), ("internal/strconv.uint64pow10", laid_internal_strconv_uint64pow10), ("strconv.ErrRange", laid_strconv_ErrRange), ("strconv.ErrSyntax", laid_strconv_ErrSyntax)], narrowed := true }
def ValueStoreLawsUptoSaid : Prop := valueStoreLawsUptoRow.holds Tryz.pinned (OpenSpec.upto valueStoreLawsSpec)

/-- 'chcsolverlaw04.ValueExtensional', WHERE WHAT IT READS IS OF BULK AT MOST 1048576: true; the input reads as it did. -/
def valueExtensionalUptoRow : OpenClaim := { program := "ytmckcoeongfmhaagreatdoor", sum := "4f6020d7effb359ce6cc03b633e32114ebbf39780b65fa34d487001e98f556ba", func := "chcsolver/chcsolverlaw04.ValueExtensional", spec := "valueExtensional", inPlace := ["internal/bytealg.IndexByteString", "internal/bytealg.IndexString", "internal/abi.NoEscape", "slices.overlaps[string]"], unfollowed := true, recurses := true, named := ["internal/bytealg.MaxLen", "strconv.ErrSyntax", "strconv.ErrRange", "internal/strconv.uint64pow10", "math/bits.deBruijn32tab", "math/bits.deBruijn64tab"], apart := false, laid := [("math/bits.deBruijn32tab", laid_math_bits_deBruijn32tab), ("math/bits.deBruijn64tab", laid_math_bits_deBruijn64tab), ("internal/strconv.uint64pow10", laid_internal_strconv_uint64pow10), ("strconv.ErrRange", laid_strconv_ErrRange), ("strconv.ErrSyntax", laid_strconv_ErrSyntax)], narrowed := true }
def ValueExtensionalUptoSaid : Prop := valueExtensionalUptoRow.holds Tryz.pinned (OpenSpec.upto valueExtensionalSpec)

/-- 'chcsolverlaw04.ValueSorts', WHERE WHAT IT READS IS OF BULK AT MOST 1048576: true; the input reads as it did. -/
def valueSortsUptoRow : OpenClaim := { program := "ytmckcoeongfmhaagreatdoor", sum := "4f6020d7effb359ce6cc03b633e32114ebbf39780b65fa34d487001e98f556ba", func := "chcsolver/chcsolverlaw04.ValueSorts", spec := "valueSorts", inPlace := ["internal/bytealg.IndexByteString", "internal/bytealg.IndexString", "internal/abi.NoEscape", "slices.overlaps[string]"], unfollowed := true, recurses := true, named := ["internal/bytealg.MaxLen", "strconv.ErrSyntax", "strconv.ErrRange", "internal/strconv.uint64pow10", "math/bits.deBruijn32tab", "math/bits.deBruijn64tab"], apart := false, laid := [("math/bits.deBruijn32tab", laid_math_bits_deBruijn32tab), ("math/bits.deBruijn64tab", laid_math_bits_deBruijn64tab), ("internal/strconv.uint64pow10", laid_internal_strconv_uint64pow10), ("strconv.ErrRange", laid_strconv_ErrRange), ("strconv.ErrSyntax", laid_strconv_ErrSyntax)], narrowed := true }
def ValueSortsUptoSaid : Prop := valueSortsUptoRow.holds Tryz.pinned (OpenSpec.upto valueSortsSpec)

/-- 'chcsolverlaw04.ValueArithmetic', WHERE WHAT IT READS IS OF BULK AT MOST 1048576: true; the input reads as it did. -/
def valueArithmeticUptoRow : OpenClaim := { program := "ytmckcoeongfmhaagreatdoor", sum := "4f6020d7effb359ce6cc03b633e32114ebbf39780b65fa34d487001e98f556ba", func := "chcsolver/chcsolverlaw04.ValueArithmetic", spec := "valueArithmetic", inPlace := ["internal/bytealg.IndexByteString", "internal/bytealg.IndexString", "internal/abi.NoEscape", "slices.overlaps[string]"], unfollowed := true, recurses := true, named := ["internal/bytealg.MaxLen", "strconv.ErrSyntax", "strconv.ErrRange", "internal/strconv.uint64pow10", "math/bits.deBruijn32tab", "math/bits.deBruijn64tab"], apart := false, laid := [("math/bits.deBruijn32tab", laid_math_bits_deBruijn32tab), ("math/bits.deBruijn64tab", laid_math_bits_deBruijn64tab), ("internal/strconv.uint64pow10", laid_internal_strconv_uint64pow10), ("strconv.ErrRange", laid_strconv_ErrRange), ("strconv.ErrSyntax", laid_strconv_ErrSyntax)], narrowed := true }
def ValueArithmeticUptoSaid : Prop := valueArithmeticUptoRow.holds Tryz.pinned (OpenSpec.upto valueArithmeticSpec)

/-- 'chcsolverlaw04.ValueText', WHERE WHAT IT READS IS OF BULK AT MOST 1048576: true; the input reads as it did. -/
def valueTextUptoRow : OpenClaim := { program := "ytmckcoeongfmhaagreatdoor", sum := "4f6020d7effb359ce6cc03b633e32114ebbf39780b65fa34d487001e98f556ba", func := "chcsolver/chcsolverlaw04.ValueText", spec := "valueText", inPlace := ["internal/bytealg.IndexByteString", "internal/bytealg.IndexString", "internal/abi.NoEscape", "slices.overlaps[string]", "internal/bytealg.MakeNoZero"], unfollowed := true, recurses := true, named := ["internal/bytealg.MaxLen", "strconv.ErrSyntax", "strconv.ErrRange", "internal/strconv.uint64pow10", "math/bits.deBruijn32tab", "math/bits.deBruijn64tab", "unicode/utf8.first", "unicode/utf8.acceptRanges"], apart := false, laid := [("math/bits.deBruijn32tab", laid_math_bits_deBruijn32tab), ("math/bits.deBruijn64tab", laid_math_bits_deBruijn64tab), ("internal/strconv.uint64pow10", laid_internal_strconv_uint64pow10), ("unicode/utf8.acceptRanges", laid_unicode_utf8_acceptRanges), ("strconv.ErrRange", laid_strconv_ErrRange), ("strconv.ErrSyntax", laid_strconv_ErrSyntax), ("unicode/utf8.first", laid_unicode_utf8_first)], narrowed := true }
def ValueTextUptoSaid : Prop := valueTextUptoRow.holds Tryz.pinned (OpenSpec.upto valueTextSpec)

end Rows
end Go.Proofs.YtmckcoeongfmhaaGreatDoor
