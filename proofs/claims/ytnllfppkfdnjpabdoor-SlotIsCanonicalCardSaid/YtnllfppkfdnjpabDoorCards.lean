/-
  DERIVED. GIVEN WITH THE SEED: THE CARDS: each row of YtnllfppkfdnjpabDoorRows.lean that lists a variable, with what it lists TIED to the program's text (the seventh form; the later family's looks); each row that meets fmt, with fmt's text TOLD by the authors' own Lean function (tested against real Go, not proved from fmt's source: count such statements apart). THE CARD IS WHAT COUNTS. Prove the row's statement (the work); the ties are given (YtnllfppkfdnjpabDoorTie.lean); close each card by the builder's one call (the guide's Derived/Test/ToyasCard.lean, 'card_holds'). Laid BY PROGRAM, IN A SANDBOX (cutbox-door.mjs). By AI agents, Wed Nov 11 2026. No macro, syntax, notation, axiom, sorry.
-/
import Derived.Test.YtnllfppkfdnjpabDoorRows
import GoSem.ClaimSeven
namespace Go.Proofs.YtnllfppkfdnjpabDoor
namespace Rows

/-- THE TIED CARD OF 'slotcodelaw06.AluDoes'. -/
def aluDoesCard : Claim7 := { stood := { row := aluDoesRow, standIns := [], harness := (true, "60fb7499d7a4db2f870d3628ffaa249377507afe4dc445c8aceb5b3eb4f79fdd"), looks := false }, kinds := [], alts := [], laidByText := true, laidKinds := [.data, .widerDeep], laidTests := true, laidLooks := .later }
def AluDoesCardSaid : Prop := Claim7.holds Tryd.pinned (.plain (OpenSpec.ofChange aluDoesSpec)) aluDoesCard

/-- THE TIED CARD OF 'slotcodelaw06.AluOperands'. -/
def aluOperandsCard : Claim7 := { stood := { row := aluOperandsRow, standIns := [], harness := (true, "60fb7499d7a4db2f870d3628ffaa249377507afe4dc445c8aceb5b3eb4f79fdd"), looks := false }, kinds := [], alts := [], laidByText := true, laidKinds := [.data, .widerDeep], laidTests := true, laidLooks := .later }
def AluOperandsCardSaid : Prop := Claim7.holds Tryd.pinned (.plain (OpenSpec.ofChange aluOperandsSpec)) aluOperandsCard

/-- THE TIED CARD OF 'slotcodelaw06.AluSwaps'. -/
def aluSwapsCard : Claim7 := { stood := { row := aluSwapsRow, standIns := [], harness := (true, "60fb7499d7a4db2f870d3628ffaa249377507afe4dc445c8aceb5b3eb4f79fdd"), looks := false }, kinds := [], alts := [], laidByText := true, laidKinds := [.data, .widerDeep], laidTests := true, laidLooks := .later }
def AluSwapsCardSaid : Prop := Claim7.holds Tryd.pinned (.plain (OpenSpec.ofChange aluSwapsSpec)) aluSwapsCard

/-- THE TIED CARD OF 'slotcodelaw06.AluDivides'. -/
def aluDividesCard : Claim7 := { stood := { row := aluDividesRow, standIns := [], harness := (true, "60fb7499d7a4db2f870d3628ffaa249377507afe4dc445c8aceb5b3eb4f79fdd"), looks := false }, kinds := [], alts := [], laidByText := true, laidKinds := [.data, .widerDeep], laidTests := true, laidLooks := .later }
def AluDividesCardSaid : Prop := Claim7.holds Tryd.pinned (.plain (OpenSpec.ofChange aluDividesSpec)) aluDividesCard

/-- THE TIED CARD OF 'slotcodelaw06.AluLow'. -/
def aluLowCard : Claim7 := { stood := { row := aluLowRow, standIns := [], harness := (true, "60fb7499d7a4db2f870d3628ffaa249377507afe4dc445c8aceb5b3eb4f79fdd"), looks := false }, kinds := [], alts := [], laidByText := true, laidKinds := [.data, .widerDeep], laidTests := true, laidLooks := .later }
def AluLowCardSaid : Prop := Claim7.holds Tryd.pinned (.plain (OpenSpec.ofChange aluLowSpec)) aluLowCard

/-- THE TIED CARD OF 'slotcodelaw06.AluInverse'. -/
def aluInverseCard : Claim7 := { stood := { row := aluInverseRow, standIns := [], harness := (true, "60fb7499d7a4db2f870d3628ffaa249377507afe4dc445c8aceb5b3eb4f79fdd"), looks := false }, kinds := [], alts := [], laidByText := true, laidKinds := [.data, .widerDeep], laidTests := true, laidLooks := .later }
def AluInverseCardSaid : Prop := Claim7.holds Tryd.pinned (.plain (OpenSpec.ofChange aluInverseSpec)) aluInverseCard

/-- THE TIED CARD OF 'slotcodelaw05.SlotEncodes'. -/
def slotEncodesCard : Claim7 := { stood := { row := slotEncodesRow, standIns := [], harness := (true, "60fb7499d7a4db2f870d3628ffaa249377507afe4dc445c8aceb5b3eb4f79fdd"), looks := false }, kinds := [], alts := [], laidByText := true, laidKinds := [.data, .widerDeep], laidTests := true, laidLooks := .later }
def SlotEncodesCardSaid : Prop := Claim7.holds Tryd.pinned (.plain (OpenSpec.ofChange slotEncodesSpec)) slotEncodesCard

/-- THE TIED CARD OF 'slotcodelaw05.SlotDecodes'. -/
def slotDecodesCard : Claim7 := { stood := { row := slotDecodesRow, standIns := [], harness := (true, "60fb7499d7a4db2f870d3628ffaa249377507afe4dc445c8aceb5b3eb4f79fdd"), looks := false }, kinds := [], alts := [], laidByText := true, laidKinds := [.data, .widerDeep], laidTests := true, laidLooks := .later }
def SlotDecodesCardSaid : Prop := Claim7.holds Tryd.pinned (.plain (OpenSpec.ofChange slotDecodesSpec)) slotDecodesCard

/-- THE TIED CARD OF 'slotcodelaw05.SlotInverts'. -/
def slotInvertsCard : Claim7 := { stood := { row := slotInvertsRow, standIns := [], harness := (true, "60fb7499d7a4db2f870d3628ffaa249377507afe4dc445c8aceb5b3eb4f79fdd"), looks := false }, kinds := [], alts := [], laidByText := true, laidKinds := [.data, .widerDeep], laidTests := true, laidLooks := .later }
def SlotInvertsCardSaid : Prop := Claim7.holds Tryd.pinned (.plain (OpenSpec.ofChange slotInvertsSpec)) slotInvertsCard

/-- THE TIED CARD OF 'slotcodelaw05.SlotIsCanonical'. -/
def slotIsCanonicalCard : Claim7 := { stood := { row := slotIsCanonicalRow, standIns := [], harness := (true, "60fb7499d7a4db2f870d3628ffaa249377507afe4dc445c8aceb5b3eb4f79fdd"), looks := false }, kinds := [], alts := [], laidByText := true, laidKinds := [.data, .widerDeep], laidTests := true, laidLooks := .later }
def SlotIsCanonicalCardSaid : Prop := Claim7.holds Tryd.pinned (.plain (OpenSpec.ofChange slotIsCanonicalSpec)) slotIsCanonicalCard

/-- THE TIED CARD OF 'slotcodelaw05.SlotAll'. -/
def slotAllCard : Claim7 := { stood := { row := slotAllRow, standIns := [], harness := (true, "60fb7499d7a4db2f870d3628ffaa249377507afe4dc445c8aceb5b3eb4f79fdd"), looks := false }, kinds := [], alts := [], laidByText := true, laidKinds := [.data, .widerDeep], laidTests := true, laidLooks := .later }
def SlotAllCardSaid : Prop := Claim7.holds Tryd.pinned (.plain (OpenSpec.ofChange slotAllSpec)) slotAllCard

/-- THE TIED CARD OF 'slotcodelaw05.SlotJoins'. -/
def slotJoinsCard : Claim7 := { stood := { row := slotJoinsRow, standIns := [], harness := (true, "60fb7499d7a4db2f870d3628ffaa249377507afe4dc445c8aceb5b3eb4f79fdd"), looks := false }, kinds := [], alts := [], laidByText := true, laidKinds := [.data, .widerDeep], laidTests := true, laidLooks := .later }
def SlotJoinsCardSaid : Prop := Claim7.holds Tryd.pinned (.plain (OpenSpec.ofChange slotJoinsSpec)) slotJoinsCard

/-- THE SECOND FORM's CARD OF 'slotcodelaw06.AluDoes'. -/
def aluDoesUptoCard : Claim7 := { stood := { row := aluDoesUptoRow, standIns := [], harness := (true, "60fb7499d7a4db2f870d3628ffaa249377507afe4dc445c8aceb5b3eb4f79fdd"), looks := false }, kinds := [], alts := [], laidByText := true, laidKinds := [.data, .widerDeep], laidTests := true, laidLooks := .later }
def AluDoesUptoCardSaid : Prop := Claim7.holds Tryd.pinned (.plain (OpenSpec.upto aluDoesSpec)) aluDoesUptoCard

/-- THE SECOND FORM's CARD OF 'slotcodelaw06.AluOperands'. -/
def aluOperandsUptoCard : Claim7 := { stood := { row := aluOperandsUptoRow, standIns := [], harness := (true, "60fb7499d7a4db2f870d3628ffaa249377507afe4dc445c8aceb5b3eb4f79fdd"), looks := false }, kinds := [], alts := [], laidByText := true, laidKinds := [.data, .widerDeep], laidTests := true, laidLooks := .later }
def AluOperandsUptoCardSaid : Prop := Claim7.holds Tryd.pinned (.plain (OpenSpec.upto aluOperandsSpec)) aluOperandsUptoCard

/-- THE SECOND FORM's CARD OF 'slotcodelaw06.AluSwaps'. -/
def aluSwapsUptoCard : Claim7 := { stood := { row := aluSwapsUptoRow, standIns := [], harness := (true, "60fb7499d7a4db2f870d3628ffaa249377507afe4dc445c8aceb5b3eb4f79fdd"), looks := false }, kinds := [], alts := [], laidByText := true, laidKinds := [.data, .widerDeep], laidTests := true, laidLooks := .later }
def AluSwapsUptoCardSaid : Prop := Claim7.holds Tryd.pinned (.plain (OpenSpec.upto aluSwapsSpec)) aluSwapsUptoCard

/-- THE SECOND FORM's CARD OF 'slotcodelaw06.AluDivides'. -/
def aluDividesUptoCard : Claim7 := { stood := { row := aluDividesUptoRow, standIns := [], harness := (true, "60fb7499d7a4db2f870d3628ffaa249377507afe4dc445c8aceb5b3eb4f79fdd"), looks := false }, kinds := [], alts := [], laidByText := true, laidKinds := [.data, .widerDeep], laidTests := true, laidLooks := .later }
def AluDividesUptoCardSaid : Prop := Claim7.holds Tryd.pinned (.plain (OpenSpec.upto aluDividesSpec)) aluDividesUptoCard

/-- THE SECOND FORM's CARD OF 'slotcodelaw06.AluLow'. -/
def aluLowUptoCard : Claim7 := { stood := { row := aluLowUptoRow, standIns := [], harness := (true, "60fb7499d7a4db2f870d3628ffaa249377507afe4dc445c8aceb5b3eb4f79fdd"), looks := false }, kinds := [], alts := [], laidByText := true, laidKinds := [.data, .widerDeep], laidTests := true, laidLooks := .later }
def AluLowUptoCardSaid : Prop := Claim7.holds Tryd.pinned (.plain (OpenSpec.upto aluLowSpec)) aluLowUptoCard

/-- THE SECOND FORM's CARD OF 'slotcodelaw06.AluInverse'. -/
def aluInverseUptoCard : Claim7 := { stood := { row := aluInverseUptoRow, standIns := [], harness := (true, "60fb7499d7a4db2f870d3628ffaa249377507afe4dc445c8aceb5b3eb4f79fdd"), looks := false }, kinds := [], alts := [], laidByText := true, laidKinds := [.data, .widerDeep], laidTests := true, laidLooks := .later }
def AluInverseUptoCardSaid : Prop := Claim7.holds Tryd.pinned (.plain (OpenSpec.upto aluInverseSpec)) aluInverseUptoCard

/-- THE SECOND FORM's CARD OF 'slotcodelaw05.SlotEncodes'. -/
def slotEncodesUptoCard : Claim7 := { stood := { row := slotEncodesUptoRow, standIns := [], harness := (true, "60fb7499d7a4db2f870d3628ffaa249377507afe4dc445c8aceb5b3eb4f79fdd"), looks := false }, kinds := [], alts := [], laidByText := true, laidKinds := [.data, .widerDeep], laidTests := true, laidLooks := .later }
def SlotEncodesUptoCardSaid : Prop := Claim7.holds Tryd.pinned (.plain (OpenSpec.upto slotEncodesSpec)) slotEncodesUptoCard

/-- THE SECOND FORM's CARD OF 'slotcodelaw05.SlotDecodes'. -/
def slotDecodesUptoCard : Claim7 := { stood := { row := slotDecodesUptoRow, standIns := [], harness := (true, "60fb7499d7a4db2f870d3628ffaa249377507afe4dc445c8aceb5b3eb4f79fdd"), looks := false }, kinds := [], alts := [], laidByText := true, laidKinds := [.data, .widerDeep], laidTests := true, laidLooks := .later }
def SlotDecodesUptoCardSaid : Prop := Claim7.holds Tryd.pinned (.plain (OpenSpec.upto slotDecodesSpec)) slotDecodesUptoCard

/-- THE SECOND FORM's CARD OF 'slotcodelaw05.SlotInverts'. -/
def slotInvertsUptoCard : Claim7 := { stood := { row := slotInvertsUptoRow, standIns := [], harness := (true, "60fb7499d7a4db2f870d3628ffaa249377507afe4dc445c8aceb5b3eb4f79fdd"), looks := false }, kinds := [], alts := [], laidByText := true, laidKinds := [.data, .widerDeep], laidTests := true, laidLooks := .later }
def SlotInvertsUptoCardSaid : Prop := Claim7.holds Tryd.pinned (.plain (OpenSpec.upto slotInvertsSpec)) slotInvertsUptoCard

/-- THE SECOND FORM's CARD OF 'slotcodelaw05.SlotIsCanonical'. -/
def slotIsCanonicalUptoCard : Claim7 := { stood := { row := slotIsCanonicalUptoRow, standIns := [], harness := (true, "60fb7499d7a4db2f870d3628ffaa249377507afe4dc445c8aceb5b3eb4f79fdd"), looks := false }, kinds := [], alts := [], laidByText := true, laidKinds := [.data, .widerDeep], laidTests := true, laidLooks := .later }
def SlotIsCanonicalUptoCardSaid : Prop := Claim7.holds Tryd.pinned (.plain (OpenSpec.upto slotIsCanonicalSpec)) slotIsCanonicalUptoCard

/-- THE SECOND FORM's CARD OF 'slotcodelaw05.SlotAll'. -/
def slotAllUptoCard : Claim7 := { stood := { row := slotAllUptoRow, standIns := [], harness := (true, "60fb7499d7a4db2f870d3628ffaa249377507afe4dc445c8aceb5b3eb4f79fdd"), looks := false }, kinds := [], alts := [], laidByText := true, laidKinds := [.data, .widerDeep], laidTests := true, laidLooks := .later }
def SlotAllUptoCardSaid : Prop := Claim7.holds Tryd.pinned (.plain (OpenSpec.upto slotAllSpec)) slotAllUptoCard

/-- THE SECOND FORM's CARD OF 'slotcodelaw05.SlotJoins'. -/
def slotJoinsUptoCard : Claim7 := { stood := { row := slotJoinsUptoRow, standIns := [], harness := (true, "60fb7499d7a4db2f870d3628ffaa249377507afe4dc445c8aceb5b3eb4f79fdd"), looks := false }, kinds := [], alts := [], laidByText := true, laidKinds := [.data, .widerDeep], laidTests := true, laidLooks := .later }
def SlotJoinsUptoCardSaid : Prop := Claim7.holds Tryd.pinned (.plain (OpenSpec.upto slotJoinsSpec)) slotJoinsUptoCard
end Rows
end Go.Proofs.YtnllfppkfdnjpabDoor
