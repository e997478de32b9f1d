/-
  DERIVED. GIVEN WITH THE SEED: THE CARDS: each row of YtcpdjngcofhljaaGreatDoorRows.lean that lists a variable, with what it lists TIED to the program's text (the seventh form; the later family's looks); each row that meets fmt, with fmt's text TOLD by the authors' own Lean function (tested against real Go, not proved from fmt's source: count such statements apart). THE CARD IS WHAT COUNTS. Prove the row's statement (the work); the ties are given (YtcpdjngcofhljaaGreatDoorTie.lean); close each card by the builder's one call (the guide's Derived/Test/ToyasCard.lean, 'card_holds'). Laid BY PROGRAM, IN A SANDBOX (cutbox-door.mjs). By AI agents, Wed Nov 11 2026. No macro, syntax, notation, axiom, sorry.
-/
import Derived.Test.YtcpdjngcofhljaaGreatDoorRows
import GoSem.ClaimSeven
namespace Go.Proofs.YtcpdjngcofhljaaGreatDoor
namespace Rows

/-- THE TIED CARD OF 'chcsolverlaw04.ValueShape'. -/
def valueShapeCard : Claim7 := { stood := { row := valueShapeRow, standIns := [], harness := (true, "9efa6c06884a6246e01d46f8d59b7d32f5294f079a49b6f403f22bf9d82de71f"), looks := true }, kinds := [], alts := [], laidByText := true, laidKinds := [.data, .data, .data, .sentinel, .sentinel], laidTests := true, laidLooks := .later }
def ValueShapeCardSaid : Prop := Claim7.holds Tryz.pinned (.plain (OpenSpec.ofChange valueShapeSpec)) valueShapeCard

/-- THE TIED CARD OF 'chcsolverlaw04.ValueFunctions'. -/
def valueFunctionsCard : Claim7 := { stood := { row := valueFunctionsRow, standIns := [], harness := (true, "9efa6c06884a6246e01d46f8d59b7d32f5294f079a49b6f403f22bf9d82de71f"), looks := true }, kinds := [], alts := [], laidByText := true, laidKinds := [.data, .data, .data, .sentinel, .sentinel], laidTests := true, laidLooks := .later }
def ValueFunctionsCardSaid : Prop := Claim7.holds Tryz.pinned (.plain (OpenSpec.ofChange valueFunctionsSpec)) valueFunctionsCard

/-- THE TIED CARD OF 'chcsolverlaw04.ValueText'. -/
def valueTextCard : Claim7 := { stood := { row := valueTextRow, standIns := [], harness := (true, "9efa6c06884a6246e01d46f8d59b7d32f5294f079a49b6f403f22bf9d82de71f"), looks := true }, kinds := [], alts := [], laidByText := true, laidKinds := [.data, .data, .data, .data, .sentinel, .sentinel, .pinned], laidTests := true, laidLooks := .later }
def ValueTextCardSaid : Prop := Claim7.holds Tryz.pinned (.plain (OpenSpec.ofChange valueTextSpec)) valueTextCard

/-- THE SECOND FORM's CARD OF 'chcsolverlaw04.ValueShape'. -/
def valueShapeUptoCard : Claim7 := { stood := { row := valueShapeUptoRow, standIns := [], harness := (true, "9efa6c06884a6246e01d46f8d59b7d32f5294f079a49b6f403f22bf9d82de71f"), looks := true }, kinds := [], alts := [], laidByText := true, laidKinds := [.data, .data, .data, .sentinel, .sentinel], laidTests := true, laidLooks := .later }
def ValueShapeUptoCardSaid : Prop := Claim7.holds Tryz.pinned (.plain (OpenSpec.upto valueShapeSpec)) valueShapeUptoCard

/-- THE SECOND FORM's CARD OF 'chcsolverlaw04.ValueFunctions'. -/
def valueFunctionsUptoCard : Claim7 := { stood := { row := valueFunctionsUptoRow, standIns := [], harness := (true, "9efa6c06884a6246e01d46f8d59b7d32f5294f079a49b6f403f22bf9d82de71f"), looks := true }, kinds := [], alts := [], laidByText := true, laidKinds := [.data, .data, .data, .sentinel, .sentinel], laidTests := true, laidLooks := .later }
def ValueFunctionsUptoCardSaid : Prop := Claim7.holds Tryz.pinned (.plain (OpenSpec.upto valueFunctionsSpec)) valueFunctionsUptoCard

/-- THE SECOND FORM's CARD OF 'chcsolverlaw04.ValueText'. -/
def valueTextUptoCard : Claim7 := { stood := { row := valueTextUptoRow, standIns := [], harness := (true, "9efa6c06884a6246e01d46f8d59b7d32f5294f079a49b6f403f22bf9d82de71f"), looks := true }, kinds := [], alts := [], laidByText := true, laidKinds := [.data, .data, .data, .data, .sentinel, .sentinel, .pinned], laidTests := true, laidLooks := .later }
def ValueTextUptoCardSaid : Prop := Claim7.holds Tryz.pinned (.plain (OpenSpec.upto valueTextSpec)) valueTextUptoCard
end Rows
end Go.Proofs.YtcpdjngcofhljaaGreatDoor
