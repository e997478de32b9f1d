/-
  DERIVED. GIVEN WITH THE SEED: THE CARDS: each row of YtmckcoeongfmhaaGreatDoorRows.lean that lists a variable, with what it lists TIED to the program's text (the seventh form; the later family's looks); each row that meets fmt, with fmt's text TOLD by the authors' own Lean function (tested against real Go, not proved from fmt's source: count such statements apart). THE CARD IS WHAT COUNTS. Prove the row's statement (the work); the ties are given (YtmckcoeongfmhaaGreatDoorTie.lean); close each card by the builder's one call (the guide's Derived/Test/ToyasCard.lean, 'card_holds'). Laid BY PROGRAM, IN A SANDBOX (cutbox-door.mjs). By AI agents, Wed Nov 11 2026. No macro, syntax, notation, axiom, sorry.
-/
import Derived.Test.YtmckcoeongfmhaaGreatDoorRows
import GoSem.ClaimSeven
namespace Go.Proofs.YtmckcoeongfmhaaGreatDoor
namespace Rows

/-- THE TIED CARD OF 'chcsolverlaw04.ValueShape'. -/
def valueShapeCard : Claim7 := { stood := { row := valueShapeRow, standIns := [], harness := (true, "987e45801d619aa2d1a9a4afcc30ca493ba55d82fc422b56d68eee1a783e4530"), looks := true }, kinds := [], alts := [], laidByText := true, laidKinds := [.data, .data, .data, .sentinel, .sentinel], laidTests := true, laidLooks := .later }
def ValueShapeCardSaid : Prop := Claim7.holds Tryz.pinned (.plain (OpenSpec.ofChange valueShapeSpec)) valueShapeCard

/-- THE TIED CARD OF 'chcsolverlaw04.ValueZero'. -/
def valueZeroCard : Claim7 := { stood := { row := valueZeroRow, standIns := [], harness := (true, "987e45801d619aa2d1a9a4afcc30ca493ba55d82fc422b56d68eee1a783e4530"), looks := true }, kinds := [], alts := [], laidByText := true, laidKinds := [.data, .data, .data, .sentinel, .sentinel], laidTests := true, laidLooks := .later }
def ValueZeroCardSaid : Prop := Claim7.holds Tryz.pinned (.plain (OpenSpec.ofChange valueZeroSpec)) valueZeroCard

/-- THE TIED CARD OF 'chcsolverlaw04.ValueEval'. -/
def valueEvalCard : Claim7 := { stood := { row := valueEvalRow, standIns := [], harness := (true, "987e45801d619aa2d1a9a4afcc30ca493ba55d82fc422b56d68eee1a783e4530"), looks := true }, kinds := [], alts := [], laidByText := true, laidKinds := [.data, .data, .data, .sentinel, .sentinel], laidTests := true, laidLooks := .later }
def ValueEvalCardSaid : Prop := Claim7.holds Tryz.pinned (.plain (OpenSpec.ofChange valueEvalSpec)) valueEvalCard

/-- THE TIED CARD OF 'chcsolverlaw04.ValueEvalRaw'. -/
def valueEvalRawCard : Claim7 := { stood := { row := valueEvalRawRow, standIns := [], harness := (true, "987e45801d619aa2d1a9a4afcc30ca493ba55d82fc422b56d68eee1a783e4530"), looks := true }, kinds := [], alts := [], laidByText := true, laidKinds := [.data, .data, .data, .sentinel, .sentinel], laidTests := true, laidLooks := .later }
def ValueEvalRawCardSaid : Prop := Claim7.holds Tryz.pinned (.plain (OpenSpec.ofChange valueEvalRawSpec)) valueEvalRawCard

/-- THE TIED CARD OF 'chcsolverlaw04.ValueFunctions'. -/
def valueFunctionsCard : Claim7 := { stood := { row := valueFunctionsRow, standIns := [], harness := (true, "987e45801d619aa2d1a9a4afcc30ca493ba55d82fc422b56d68eee1a783e4530"), looks := true }, kinds := [], alts := [], laidByText := true, laidKinds := [.data, .data, .data, .sentinel, .sentinel], laidTests := true, laidLooks := .later }
def ValueFunctionsCardSaid : Prop := Claim7.holds Tryz.pinned (.plain (OpenSpec.ofChange valueFunctionsSpec)) valueFunctionsCard

/-- THE TIED CARD OF 'chcsolverlaw04.ValueBoolean'. -/
def valueBooleanCard : Claim7 := { stood := { row := valueBooleanRow, standIns := [], harness := (true, "987e45801d619aa2d1a9a4afcc30ca493ba55d82fc422b56d68eee1a783e4530"), looks := true }, kinds := [], alts := [], laidByText := true, laidKinds := [.data, .data, .data, .sentinel, .sentinel], laidTests := true, laidLooks := .later }
def ValueBooleanCardSaid : Prop := Claim7.holds Tryz.pinned (.plain (OpenSpec.ofChange valueBooleanSpec)) valueBooleanCard

/-- THE TIED CARD OF 'chcsolverlaw04.ValueArrays'. -/
def valueArraysCard : Claim7 := { stood := { row := valueArraysRow, standIns := [], harness := (true, "987e45801d619aa2d1a9a4afcc30ca493ba55d82fc422b56d68eee1a783e4530"), looks := true }, kinds := [], alts := [], laidByText := true, laidKinds := [.data, .data, .data, .sentinel, .sentinel], laidTests := true, laidLooks := .later }
def ValueArraysCardSaid : Prop := Claim7.holds Tryz.pinned (.plain (OpenSpec.ofChange valueArraysSpec)) valueArraysCard

/-- THE TIED CARD OF 'chcsolverlaw04.ValueStoreLaws'. -/
def valueStoreLawsCard : Claim7 := { stood := { row := valueStoreLawsRow, standIns := [], harness := (true, "987e45801d619aa2d1a9a4afcc30ca493ba55d82fc422b56d68eee1a783e4530"), looks := true }, kinds := [], alts := [], laidByText := true, laidKinds := [.data, .data, .data, .sentinel, .sentinel], laidTests := true, laidLooks := .later }
def ValueStoreLawsCardSaid : Prop := Claim7.holds Tryz.pinned (.plain (OpenSpec.ofChange valueStoreLawsSpec)) valueStoreLawsCard

/-- THE TIED CARD OF 'chcsolverlaw04.ValueExtensional'. -/
def valueExtensionalCard : Claim7 := { stood := { row := valueExtensionalRow, standIns := [], harness := (true, "987e45801d619aa2d1a9a4afcc30ca493ba55d82fc422b56d68eee1a783e4530"), looks := true }, kinds := [], alts := [], laidByText := true, laidKinds := [.data, .data, .data, .sentinel, .sentinel], laidTests := true, laidLooks := .later }
def ValueExtensionalCardSaid : Prop := Claim7.holds Tryz.pinned (.plain (OpenSpec.ofChange valueExtensionalSpec)) valueExtensionalCard

/-- THE TIED CARD OF 'chcsolverlaw04.ValueSorts'. -/
def valueSortsCard : Claim7 := { stood := { row := valueSortsRow, standIns := [], harness := (true, "987e45801d619aa2d1a9a4afcc30ca493ba55d82fc422b56d68eee1a783e4530"), looks := true }, kinds := [], alts := [], laidByText := true, laidKinds := [.data, .data, .data, .sentinel, .sentinel], laidTests := true, laidLooks := .later }
def ValueSortsCardSaid : Prop := Claim7.holds Tryz.pinned (.plain (OpenSpec.ofChange valueSortsSpec)) valueSortsCard

/-- THE TIED CARD OF 'chcsolverlaw04.ValueArithmetic'. -/
def valueArithmeticCard : Claim7 := { stood := { row := valueArithmeticRow, standIns := [], harness := (true, "987e45801d619aa2d1a9a4afcc30ca493ba55d82fc422b56d68eee1a783e4530"), looks := true }, kinds := [], alts := [], laidByText := true, laidKinds := [.data, .data, .data, .sentinel, .sentinel], laidTests := true, laidLooks := .later }
def ValueArithmeticCardSaid : Prop := Claim7.holds Tryz.pinned (.plain (OpenSpec.ofChange valueArithmeticSpec)) valueArithmeticCard

/-- THE TIED CARD OF 'chcsolverlaw04.ValueText'. -/
def valueTextCard : Claim7 := { stood := { row := valueTextRow, standIns := [], harness := (true, "987e45801d619aa2d1a9a4afcc30ca493ba55d82fc422b56d68eee1a783e4530"), looks := true }, kinds := [], alts := [], laidByText := true, laidKinds := [.data, .data, .data, .data, .sentinel, .sentinel, .pinned], laidTests := true, laidLooks := .later }
def ValueTextCardSaid : Prop := Claim7.holds Tryz.pinned (.plain (OpenSpec.ofChange valueTextSpec)) valueTextCard

/-- THE SECOND FORM's CARD OF 'chcsolverlaw04.ValueShape'. -/
def valueShapeUptoCard : Claim7 := { stood := { row := valueShapeUptoRow, standIns := [], harness := (true, "987e45801d619aa2d1a9a4afcc30ca493ba55d82fc422b56d68eee1a783e4530"), looks := true }, kinds := [], alts := [], laidByText := true, laidKinds := [.data, .data, .data, .sentinel, .sentinel], laidTests := true, laidLooks := .later }
def ValueShapeUptoCardSaid : Prop := Claim7.holds Tryz.pinned (.plain (OpenSpec.upto valueShapeSpec)) valueShapeUptoCard

/-- THE SECOND FORM's CARD OF 'chcsolverlaw04.ValueZero'. -/
def valueZeroUptoCard : Claim7 := { stood := { row := valueZeroUptoRow, standIns := [], harness := (true, "987e45801d619aa2d1a9a4afcc30ca493ba55d82fc422b56d68eee1a783e4530"), looks := true }, kinds := [], alts := [], laidByText := true, laidKinds := [.data, .data, .data, .sentinel, .sentinel], laidTests := true, laidLooks := .later }
def ValueZeroUptoCardSaid : Prop := Claim7.holds Tryz.pinned (.plain (OpenSpec.upto valueZeroSpec)) valueZeroUptoCard

/-- THE SECOND FORM's CARD OF 'chcsolverlaw04.ValueEval'. -/
def valueEvalUptoCard : Claim7 := { stood := { row := valueEvalUptoRow, standIns := [], harness := (true, "987e45801d619aa2d1a9a4afcc30ca493ba55d82fc422b56d68eee1a783e4530"), looks := true }, kinds := [], alts := [], laidByText := true, laidKinds := [.data, .data, .data, .sentinel, .sentinel], laidTests := true, laidLooks := .later }
def ValueEvalUptoCardSaid : Prop := Claim7.holds Tryz.pinned (.plain (OpenSpec.upto valueEvalSpec)) valueEvalUptoCard

/-- THE SECOND FORM's CARD OF 'chcsolverlaw04.ValueEvalRaw'. -/
def valueEvalRawUptoCard : Claim7 := { stood := { row := valueEvalRawUptoRow, standIns := [], harness := (true, "987e45801d619aa2d1a9a4afcc30ca493ba55d82fc422b56d68eee1a783e4530"), looks := true }, kinds := [], alts := [], laidByText := true, laidKinds := [.data, .data, .data, .sentinel, .sentinel], laidTests := true, laidLooks := .later }
def ValueEvalRawUptoCardSaid : Prop := Claim7.holds Tryz.pinned (.plain (OpenSpec.upto valueEvalRawSpec)) valueEvalRawUptoCard

/-- THE SECOND FORM's CARD OF 'chcsolverlaw04.ValueFunctions'. -/
def valueFunctionsUptoCard : Claim7 := { stood := { row := valueFunctionsUptoRow, standIns := [], harness := (true, "987e45801d619aa2d1a9a4afcc30ca493ba55d82fc422b56d68eee1a783e4530"), looks := true }, kinds := [], alts := [], laidByText := true, laidKinds := [.data, .data, .data, .sentinel, .sentinel], laidTests := true, laidLooks := .later }
def ValueFunctionsUptoCardSaid : Prop := Claim7.holds Tryz.pinned (.plain (OpenSpec.upto valueFunctionsSpec)) valueFunctionsUptoCard

/-- THE SECOND FORM's CARD OF 'chcsolverlaw04.ValueBoolean'. -/
def valueBooleanUptoCard : Claim7 := { stood := { row := valueBooleanUptoRow, standIns := [], harness := (true, "987e45801d619aa2d1a9a4afcc30ca493ba55d82fc422b56d68eee1a783e4530"), looks := true }, kinds := [], alts := [], laidByText := true, laidKinds := [.data, .data, .data, .sentinel, .sentinel], laidTests := true, laidLooks := .later }
def ValueBooleanUptoCardSaid : Prop := Claim7.holds Tryz.pinned (.plain (OpenSpec.upto valueBooleanSpec)) valueBooleanUptoCard

/-- THE SECOND FORM's CARD OF 'chcsolverlaw04.ValueArrays'. -/
def valueArraysUptoCard : Claim7 := { stood := { row := valueArraysUptoRow, standIns := [], harness := (true, "987e45801d619aa2d1a9a4afcc30ca493ba55d82fc422b56d68eee1a783e4530"), looks := true }, kinds := [], alts := [], laidByText := true, laidKinds := [.data, .data, .data, .sentinel, .sentinel], laidTests := true, laidLooks := .later }
def ValueArraysUptoCardSaid : Prop := Claim7.holds Tryz.pinned (.plain (OpenSpec.upto valueArraysSpec)) valueArraysUptoCard

/-- THE SECOND FORM's CARD OF 'chcsolverlaw04.ValueStoreLaws'. -/
def valueStoreLawsUptoCard : Claim7 := { stood := { row := valueStoreLawsUptoRow, standIns := [], harness := (true, "987e45801d619aa2d1a9a4afcc30ca493ba55d82fc422b56d68eee1a783e4530"), looks := true }, kinds := [], alts := [], laidByText := true, laidKinds := [.data, .data, .data, .sentinel, .sentinel], laidTests := true, laidLooks := .later }
def ValueStoreLawsUptoCardSaid : Prop := Claim7.holds Tryz.pinned (.plain (OpenSpec.upto valueStoreLawsSpec)) valueStoreLawsUptoCard

/-- THE SECOND FORM's CARD OF 'chcsolverlaw04.ValueExtensional'. -/
def valueExtensionalUptoCard : Claim7 := { stood := { row := valueExtensionalUptoRow, standIns := [], harness := (true, "987e45801d619aa2d1a9a4afcc30ca493ba55d82fc422b56d68eee1a783e4530"), looks := true }, kinds := [], alts := [], laidByText := true, laidKinds := [.data, .data, .data, .sentinel, .sentinel], laidTests := true, laidLooks := .later }
def ValueExtensionalUptoCardSaid : Prop := Claim7.holds Tryz.pinned (.plain (OpenSpec.upto valueExtensionalSpec)) valueExtensionalUptoCard

/-- THE SECOND FORM's CARD OF 'chcsolverlaw04.ValueSorts'. -/
def valueSortsUptoCard : Claim7 := { stood := { row := valueSortsUptoRow, standIns := [], harness := (true, "987e45801d619aa2d1a9a4afcc30ca493ba55d82fc422b56d68eee1a783e4530"), looks := true }, kinds := [], alts := [], laidByText := true, laidKinds := [.data, .data, .data, .sentinel, .sentinel], laidTests := true, laidLooks := .later }
def ValueSortsUptoCardSaid : Prop := Claim7.holds Tryz.pinned (.plain (OpenSpec.upto valueSortsSpec)) valueSortsUptoCard

/-- THE SECOND FORM's CARD OF 'chcsolverlaw04.ValueArithmetic'. -/
def valueArithmeticUptoCard : Claim7 := { stood := { row := valueArithmeticUptoRow, standIns := [], harness := (true, "987e45801d619aa2d1a9a4afcc30ca493ba55d82fc422b56d68eee1a783e4530"), looks := true }, kinds := [], alts := [], laidByText := true, laidKinds := [.data, .data, .data, .sentinel, .sentinel], laidTests := true, laidLooks := .later }
def ValueArithmeticUptoCardSaid : Prop := Claim7.holds Tryz.pinned (.plain (OpenSpec.upto valueArithmeticSpec)) valueArithmeticUptoCard

/-- THE SECOND FORM's CARD OF 'chcsolverlaw04.ValueText'. -/
def valueTextUptoCard : Claim7 := { stood := { row := valueTextUptoRow, standIns := [], harness := (true, "987e45801d619aa2d1a9a4afcc30ca493ba55d82fc422b56d68eee1a783e4530"), looks := true }, kinds := [], alts := [], laidByText := true, laidKinds := [.data, .data, .data, .data, .sentinel, .sentinel, .pinned], laidTests := true, laidLooks := .later }
def ValueTextUptoCardSaid : Prop := Claim7.holds Tryz.pinned (.plain (OpenSpec.upto valueTextSpec)) valueTextUptoCard
end Rows
end Go.Proofs.YtmckcoeongfmhaaGreatDoor
