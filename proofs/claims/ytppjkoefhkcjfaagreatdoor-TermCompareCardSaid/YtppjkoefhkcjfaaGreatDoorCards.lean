/-
  DERIVED. GIVEN WITH THE SEED: THE CARDS: each row of YtppjkoefhkcjfaaGreatDoorRows.lean that lists a variable, with what it lists TIED to the program's text (the seventh form; the later family's looks); each row that meets fmt, with fmt's text TOLD by the authors' own Lean function (tested against real Go, not proved from fmt's source: count such statements apart). THE CARD IS WHAT COUNTS. Prove the row's statement (the work); the ties are given (YtppjkoefhkcjfaaGreatDoorTie.lean); close each card by the builder's one call (the guide's Derived/Test/ToyasCard.lean, 'card_holds'). Laid BY PROGRAM, IN A SANDBOX (cutbox-door.mjs). By AI agents, Wed Nov 11 2026. No macro, syntax, notation, axiom, sorry.
-/
import Derived.Test.YtppjkoefhkcjfaaGreatDoorRows
import GoSem.ClaimSeven
namespace Go.Proofs.YtppjkoefhkcjfaaGreatDoor
namespace Rows

/-- THE TIED CARD OF 'chcsolverlaw03.TermNames'. -/
def termNamesCard : Claim7 := { stood := { row := termNamesRow, standIns := [], harness := (true, "18d8f214ca62553f62985e4d82bc26a568b771b5755f8efbd4ee6c0170ccd104"), looks := true }, kinds := [], alts := [], laidByText := true, laidKinds := [.data, .data, .data, .data, .sentinel, .sentinel, .pinned], laidTests := true, laidLooks := .later }
def TermNamesCardSaid : Prop := Claim7.holds Tryz.pinned (.plain (OpenSpec.ofChange termNamesSpec)) termNamesCard

/-- THE TIED CARD OF 'chcsolverlaw03.TermNew'. -/
def termNewCard : Claim7 := { stood := { row := termNewRow, standIns := [], harness := (true, "18d8f214ca62553f62985e4d82bc26a568b771b5755f8efbd4ee6c0170ccd104"), looks := true }, kinds := [], alts := [], laidByText := true, laidKinds := [.data, .data, .data, .data, .sentinel, .sentinel, .pinned], laidTests := true, laidLooks := .later }
def TermNewCardSaid : Prop := Claim7.holds Tryz.pinned (.plain (OpenSpec.ofChange termNewSpec)) termNewCard

/-- THE TIED CARD OF 'chcsolverlaw03.TermRebuild'. -/
def termRebuildCard : Claim7 := { stood := { row := termRebuildRow, standIns := [], harness := (true, "18d8f214ca62553f62985e4d82bc26a568b771b5755f8efbd4ee6c0170ccd104"), looks := true }, kinds := [], alts := [], laidByText := true, laidKinds := [.data, .data, .data, .data, .sentinel, .sentinel, .pinned], laidTests := true, laidLooks := .later }
def TermRebuildCardSaid : Prop := Claim7.holds Tryz.pinned (.plain (OpenSpec.ofChange termRebuildSpec)) termRebuildCard

/-- THE TIED CARD OF 'chcsolverlaw03.TermShape'. -/
def termShapeCard : Claim7 := { stood := { row := termShapeRow, standIns := [], harness := (true, "18d8f214ca62553f62985e4d82bc26a568b771b5755f8efbd4ee6c0170ccd104"), looks := true }, kinds := [], alts := [], laidByText := true, laidKinds := [.data, .data, .data, .data, .sentinel, .sentinel, .pinned], laidTests := true, laidLooks := .later }
def TermShapeCardSaid : Prop := Claim7.holds Tryz.pinned (.plain (OpenSpec.ofChange termShapeSpec)) termShapeCard

/-- THE TIED CARD OF 'chcsolverlaw03.TermCompare'. -/
def termCompareCard : Claim7 := { stood := { row := termCompareRow, standIns := [], harness := (true, "18d8f214ca62553f62985e4d82bc26a568b771b5755f8efbd4ee6c0170ccd104"), looks := true }, kinds := [], alts := [], laidByText := true, laidKinds := [.data, .data, .data, .data, .sentinel, .sentinel, .pinned], laidTests := true, laidLooks := .later }
def TermCompareCardSaid : Prop := Claim7.holds Tryz.pinned (.plain (OpenSpec.ofChange termCompareSpec)) termCompareCard

/-- THE SECOND FORM's CARD OF 'chcsolverlaw03.TermNames'. -/
def termNamesUptoCard : Claim7 := { stood := { row := termNamesUptoRow, standIns := [], harness := (true, "18d8f214ca62553f62985e4d82bc26a568b771b5755f8efbd4ee6c0170ccd104"), looks := true }, kinds := [], alts := [], laidByText := true, laidKinds := [.data, .data, .data, .data, .sentinel, .sentinel, .pinned], laidTests := true, laidLooks := .later }
def TermNamesUptoCardSaid : Prop := Claim7.holds Tryz.pinned (.plain (OpenSpec.upto termNamesSpec)) termNamesUptoCard

/-- THE SECOND FORM's CARD OF 'chcsolverlaw03.TermNew'. -/
def termNewUptoCard : Claim7 := { stood := { row := termNewUptoRow, standIns := [], harness := (true, "18d8f214ca62553f62985e4d82bc26a568b771b5755f8efbd4ee6c0170ccd104"), looks := true }, kinds := [], alts := [], laidByText := true, laidKinds := [.data, .data, .data, .data, .sentinel, .sentinel, .pinned], laidTests := true, laidLooks := .later }
def TermNewUptoCardSaid : Prop := Claim7.holds Tryz.pinned (.plain (OpenSpec.upto termNewSpec)) termNewUptoCard

/-- THE SECOND FORM's CARD OF 'chcsolverlaw03.TermRebuild'. -/
def termRebuildUptoCard : Claim7 := { stood := { row := termRebuildUptoRow, standIns := [], harness := (true, "18d8f214ca62553f62985e4d82bc26a568b771b5755f8efbd4ee6c0170ccd104"), looks := true }, kinds := [], alts := [], laidByText := true, laidKinds := [.data, .data, .data, .data, .sentinel, .sentinel, .pinned], laidTests := true, laidLooks := .later }
def TermRebuildUptoCardSaid : Prop := Claim7.holds Tryz.pinned (.plain (OpenSpec.upto termRebuildSpec)) termRebuildUptoCard

/-- THE SECOND FORM's CARD OF 'chcsolverlaw03.TermShape'. -/
def termShapeUptoCard : Claim7 := { stood := { row := termShapeUptoRow, standIns := [], harness := (true, "18d8f214ca62553f62985e4d82bc26a568b771b5755f8efbd4ee6c0170ccd104"), looks := true }, kinds := [], alts := [], laidByText := true, laidKinds := [.data, .data, .data, .data, .sentinel, .sentinel, .pinned], laidTests := true, laidLooks := .later }
def TermShapeUptoCardSaid : Prop := Claim7.holds Tryz.pinned (.plain (OpenSpec.upto termShapeSpec)) termShapeUptoCard

/-- THE SECOND FORM's CARD OF 'chcsolverlaw03.TermCompare'. -/
def termCompareUptoCard : Claim7 := { stood := { row := termCompareUptoRow, standIns := [], harness := (true, "18d8f214ca62553f62985e4d82bc26a568b771b5755f8efbd4ee6c0170ccd104"), looks := true }, kinds := [], alts := [], laidByText := true, laidKinds := [.data, .data, .data, .data, .sentinel, .sentinel, .pinned], laidTests := true, laidLooks := .later }
def TermCompareUptoCardSaid : Prop := Claim7.holds Tryz.pinned (.plain (OpenSpec.upto termCompareSpec)) termCompareUptoCard
end Rows
end Go.Proofs.YtppjkoefhkcjfaaGreatDoor
