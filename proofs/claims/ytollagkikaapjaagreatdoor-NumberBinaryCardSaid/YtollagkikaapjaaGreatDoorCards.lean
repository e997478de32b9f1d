/-
  DERIVED. GIVEN WITH THE SEED: THE CARDS: each row of YtollagkikaapjaaGreatDoorRows.lean that lists a variable, with what it lists TIED to the program's text (the seventh form; the later family's looks); each row that meets fmt, with fmt's text TOLD by the authors' own Lean function (tested against real Go, not proved from fmt's source: count such statements apart). THE CARD IS WHAT COUNTS. Prove the row's statement (the work); the ties are given (YtollagkikaapjaaGreatDoorTie.lean); close each card by the builder's one call (the guide's Derived/Test/ToyasCard.lean, 'card_holds'). Laid BY PROGRAM, IN A SANDBOX (cutbox-door.mjs). By AI agents, Wed Nov 11 2026. No macro, syntax, notation, axiom, sorry.
-/
import Derived.Test.YtollagkikaapjaaGreatDoorRows
import GoSem.ClaimSeven
namespace Go.Proofs.YtollagkikaapjaaGreatDoor
namespace Rows

/-- THE TIED CARD OF 'chcsolverlaw01.NumberParse'. -/
def numberParseCard : Claim7 := { stood := { row := numberParseRow, standIns := [], harness := (true, "15ab2186f399797707299a229c4868228d6faabb9789e19a3003efa009828577"), looks := true }, kinds := [], alts := [], laidByText := true, laidKinds := [.data, .data, .data, .data, .sentinel, .sentinel, .pinned], laidTests := true, laidLooks := .later }
def NumberParseCardSaid : Prop := Claim7.holds Tryz.pinned (.plain (OpenSpec.ofChange numberParseSpec)) numberParseCard

/-- THE TIED CARD OF 'chcsolverlaw01.NumberOrder'. -/
def numberOrderCard : Claim7 := { stood := { row := numberOrderRow, standIns := [], harness := (true, "15ab2186f399797707299a229c4868228d6faabb9789e19a3003efa009828577"), looks := true }, kinds := [], alts := [], laidByText := true, laidKinds := [.data, .data, .data, .data, .sentinel, .sentinel, .pinned], laidTests := true, laidLooks := .later }
def NumberOrderCardSaid : Prop := Claim7.holds Tryz.pinned (.plain (OpenSpec.ofChange numberOrderSpec)) numberOrderCard

/-- THE TIED CARD OF 'chcsolverlaw01.NumberField'. -/
def numberFieldCard : Claim7 := { stood := { row := numberFieldRow, standIns := [], harness := (true, "15ab2186f399797707299a229c4868228d6faabb9789e19a3003efa009828577"), looks := true }, kinds := [], alts := [], laidByText := true, laidKinds := [.data, .data, .data, .data, .sentinel, .sentinel, .pinned], laidTests := true, laidLooks := .later }
def NumberFieldCardSaid : Prop := Claim7.holds Tryz.pinned (.plain (OpenSpec.ofChange numberFieldSpec)) numberFieldCard

/-- THE TIED CARD OF 'chcsolverlaw01.NumberRounding'. -/
def numberRoundingCard : Claim7 := { stood := { row := numberRoundingRow, standIns := [], harness := (true, "15ab2186f399797707299a229c4868228d6faabb9789e19a3003efa009828577"), looks := true }, kinds := [], alts := [], laidByText := true, laidKinds := [.data, .data, .data, .data, .sentinel, .sentinel, .pinned], laidTests := true, laidLooks := .later }
def NumberRoundingCardSaid : Prop := Claim7.holds Tryz.pinned (.plain (OpenSpec.ofChange numberRoundingSpec)) numberRoundingCard

/-- THE TIED CARD OF 'chcsolverlaw01.NumberLists'. -/
def numberListsCard : Claim7 := { stood := { row := numberListsRow, standIns := [], harness := (true, "15ab2186f399797707299a229c4868228d6faabb9789e19a3003efa009828577"), looks := true }, kinds := [], alts := [], laidByText := true, laidKinds := [.data, .data, .data, .data, .sentinel, .sentinel, .pinned], laidTests := true, laidLooks := .later }
def NumberListsCardSaid : Prop := Claim7.holds Tryz.pinned (.plain (OpenSpec.ofChange numberListsSpec)) numberListsCard

/-- THE TIED CARD OF 'chcsolverlaw01.NumberFraction'. -/
def numberFractionCard : Claim7 := { stood := { row := numberFractionRow, standIns := [], harness := (true, "15ab2186f399797707299a229c4868228d6faabb9789e19a3003efa009828577"), looks := true }, kinds := [], alts := [], laidByText := true, laidKinds := [.data, .data, .data, .data, .sentinel, .sentinel, .pinned], laidTests := true, laidLooks := .later }
def NumberFractionCardSaid : Prop := Claim7.holds Tryz.pinned (.plain (OpenSpec.ofChange numberFractionSpec)) numberFractionCard

/-- THE TIED CARD OF 'chcsolverlaw01.NumberDivisors'. -/
def numberDivisorsCard : Claim7 := { stood := { row := numberDivisorsRow, standIns := [], harness := (true, "15ab2186f399797707299a229c4868228d6faabb9789e19a3003efa009828577"), looks := true }, kinds := [], alts := [], laidByText := true, laidKinds := [.data, .data, .data, .data, .sentinel, .sentinel, .pinned], laidTests := true, laidLooks := .later }
def NumberDivisorsCardSaid : Prop := Claim7.holds Tryz.pinned (.plain (OpenSpec.ofChange numberDivisorsSpec)) numberDivisorsCard

/-- THE TIED CARD OF 'chcsolverlaw01.NumberDivision'. -/
def numberDivisionCard : Claim7 := { stood := { row := numberDivisionRow, standIns := [], harness := (true, "15ab2186f399797707299a229c4868228d6faabb9789e19a3003efa009828577"), looks := true }, kinds := [], alts := [], laidByText := true, laidKinds := [.data, .data, .data, .data, .sentinel, .sentinel, .pinned], laidTests := true, laidLooks := .later }
def NumberDivisionCardSaid : Prop := Claim7.holds Tryz.pinned (.plain (OpenSpec.ofChange numberDivisionSpec)) numberDivisionCard

/-- THE TIED CARD OF 'chcsolverlaw01.NumberBinary'. -/
def numberBinaryCard : Claim7 := { stood := { row := numberBinaryRow, standIns := [], harness := (true, "15ab2186f399797707299a229c4868228d6faabb9789e19a3003efa009828577"), looks := true }, kinds := [], alts := [], laidByText := true, laidKinds := [.data, .data, .data, .data, .sentinel, .sentinel, .pinned], laidTests := true, laidLooks := .later }
def NumberBinaryCardSaid : Prop := Claim7.holds Tryz.pinned (.plain (OpenSpec.ofChange numberBinarySpec)) numberBinaryCard

/-- THE TIED CARD OF 'chcsolverlaw01.NumberFromInt'. -/
def numberFromIntCard : Claim7 := { stood := { row := numberFromIntRow, standIns := [], harness := (true, "15ab2186f399797707299a229c4868228d6faabb9789e19a3003efa009828577"), looks := true }, kinds := [], alts := [], laidByText := true, laidKinds := [.data, .data, .data, .data, .sentinel, .sentinel, .pinned], laidTests := true, laidLooks := .later }
def NumberFromIntCardSaid : Prop := Claim7.holds Tryz.pinned (.plain (OpenSpec.ofChange numberFromIntSpec)) numberFromIntCard

/-- THE SECOND FORM's CARD OF 'chcsolverlaw01.NumberParse'. -/
def numberParseUptoCard : Claim7 := { stood := { row := numberParseUptoRow, standIns := [], harness := (true, "15ab2186f399797707299a229c4868228d6faabb9789e19a3003efa009828577"), looks := true }, kinds := [], alts := [], laidByText := true, laidKinds := [.data, .data, .data, .data, .sentinel, .sentinel, .pinned], laidTests := true, laidLooks := .later }
def NumberParseUptoCardSaid : Prop := Claim7.holds Tryz.pinned (.plain (OpenSpec.upto numberParseSpec)) numberParseUptoCard

/-- THE SECOND FORM's CARD OF 'chcsolverlaw01.NumberOrder'. -/
def numberOrderUptoCard : Claim7 := { stood := { row := numberOrderUptoRow, standIns := [], harness := (true, "15ab2186f399797707299a229c4868228d6faabb9789e19a3003efa009828577"), looks := true }, kinds := [], alts := [], laidByText := true, laidKinds := [.data, .data, .data, .data, .sentinel, .sentinel, .pinned], laidTests := true, laidLooks := .later }
def NumberOrderUptoCardSaid : Prop := Claim7.holds Tryz.pinned (.plain (OpenSpec.upto numberOrderSpec)) numberOrderUptoCard

/-- THE SECOND FORM's CARD OF 'chcsolverlaw01.NumberField'. -/
def numberFieldUptoCard : Claim7 := { stood := { row := numberFieldUptoRow, standIns := [], harness := (true, "15ab2186f399797707299a229c4868228d6faabb9789e19a3003efa009828577"), looks := true }, kinds := [], alts := [], laidByText := true, laidKinds := [.data, .data, .data, .data, .sentinel, .sentinel, .pinned], laidTests := true, laidLooks := .later }
def NumberFieldUptoCardSaid : Prop := Claim7.holds Tryz.pinned (.plain (OpenSpec.upto numberFieldSpec)) numberFieldUptoCard

/-- THE SECOND FORM's CARD OF 'chcsolverlaw01.NumberRounding'. -/
def numberRoundingUptoCard : Claim7 := { stood := { row := numberRoundingUptoRow, standIns := [], harness := (true, "15ab2186f399797707299a229c4868228d6faabb9789e19a3003efa009828577"), looks := true }, kinds := [], alts := [], laidByText := true, laidKinds := [.data, .data, .data, .data, .sentinel, .sentinel, .pinned], laidTests := true, laidLooks := .later }
def NumberRoundingUptoCardSaid : Prop := Claim7.holds Tryz.pinned (.plain (OpenSpec.upto numberRoundingSpec)) numberRoundingUptoCard

/-- THE SECOND FORM's CARD OF 'chcsolverlaw01.NumberLists'. -/
def numberListsUptoCard : Claim7 := { stood := { row := numberListsUptoRow, standIns := [], harness := (true, "15ab2186f399797707299a229c4868228d6faabb9789e19a3003efa009828577"), looks := true }, kinds := [], alts := [], laidByText := true, laidKinds := [.data, .data, .data, .data, .sentinel, .sentinel, .pinned], laidTests := true, laidLooks := .later }
def NumberListsUptoCardSaid : Prop := Claim7.holds Tryz.pinned (.plain (OpenSpec.upto numberListsSpec)) numberListsUptoCard

/-- THE SECOND FORM's CARD OF 'chcsolverlaw01.NumberFraction'. -/
def numberFractionUptoCard : Claim7 := { stood := { row := numberFractionUptoRow, standIns := [], harness := (true, "15ab2186f399797707299a229c4868228d6faabb9789e19a3003efa009828577"), looks := true }, kinds := [], alts := [], laidByText := true, laidKinds := [.data, .data, .data, .data, .sentinel, .sentinel, .pinned], laidTests := true, laidLooks := .later }
def NumberFractionUptoCardSaid : Prop := Claim7.holds Tryz.pinned (.plain (OpenSpec.upto numberFractionSpec)) numberFractionUptoCard

/-- THE SECOND FORM's CARD OF 'chcsolverlaw01.NumberDivisors'. -/
def numberDivisorsUptoCard : Claim7 := { stood := { row := numberDivisorsUptoRow, standIns := [], harness := (true, "15ab2186f399797707299a229c4868228d6faabb9789e19a3003efa009828577"), looks := true }, kinds := [], alts := [], laidByText := true, laidKinds := [.data, .data, .data, .data, .sentinel, .sentinel, .pinned], laidTests := true, laidLooks := .later }
def NumberDivisorsUptoCardSaid : Prop := Claim7.holds Tryz.pinned (.plain (OpenSpec.upto numberDivisorsSpec)) numberDivisorsUptoCard

/-- THE SECOND FORM's CARD OF 'chcsolverlaw01.NumberDivision'. -/
def numberDivisionUptoCard : Claim7 := { stood := { row := numberDivisionUptoRow, standIns := [], harness := (true, "15ab2186f399797707299a229c4868228d6faabb9789e19a3003efa009828577"), looks := true }, kinds := [], alts := [], laidByText := true, laidKinds := [.data, .data, .data, .data, .sentinel, .sentinel, .pinned], laidTests := true, laidLooks := .later }
def NumberDivisionUptoCardSaid : Prop := Claim7.holds Tryz.pinned (.plain (OpenSpec.upto numberDivisionSpec)) numberDivisionUptoCard

/-- THE SECOND FORM's CARD OF 'chcsolverlaw01.NumberBinary'. -/
def numberBinaryUptoCard : Claim7 := { stood := { row := numberBinaryUptoRow, standIns := [], harness := (true, "15ab2186f399797707299a229c4868228d6faabb9789e19a3003efa009828577"), looks := true }, kinds := [], alts := [], laidByText := true, laidKinds := [.data, .data, .data, .data, .sentinel, .sentinel, .pinned], laidTests := true, laidLooks := .later }
def NumberBinaryUptoCardSaid : Prop := Claim7.holds Tryz.pinned (.plain (OpenSpec.upto numberBinarySpec)) numberBinaryUptoCard

/-- THE SECOND FORM's CARD OF 'chcsolverlaw01.NumberFromInt'. -/
def numberFromIntUptoCard : Claim7 := { stood := { row := numberFromIntUptoRow, standIns := [], harness := (true, "15ab2186f399797707299a229c4868228d6faabb9789e19a3003efa009828577"), looks := true }, kinds := [], alts := [], laidByText := true, laidKinds := [.data, .data, .data, .data, .sentinel, .sentinel, .pinned], laidTests := true, laidLooks := .later }
def NumberFromIntUptoCardSaid : Prop := Claim7.holds Tryz.pinned (.plain (OpenSpec.upto numberFromIntSpec)) numberFromIntUptoCard
end Rows
end Go.Proofs.YtollagkikaapjaaGreatDoor
