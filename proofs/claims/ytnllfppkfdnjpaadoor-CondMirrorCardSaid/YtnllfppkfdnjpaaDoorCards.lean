/-
  DERIVED. GIVEN WITH THE SEED: THE CARDS: each row of YtnllfppkfdnjpaaDoorRows.lean that lists a variable, with what it lists TIED to the program's text (the seventh form; the later family's looks); each row that meets fmt, with fmt's text TOLD by the authors' own Lean function (tested against real Go, not proved from fmt's source: count such statements apart). THE CARD IS WHAT COUNTS. Prove the row's statement (the work); the ties are given (YtnllfppkfdnjpaaDoorTie.lean); close each card by the builder's one call (the guide's Derived/Test/ToyasCard.lean, 'card_holds'). Laid BY PROGRAM, IN A SANDBOX (cutbox-door.mjs). By AI agents, Wed Nov 11 2026. No macro, syntax, notation, axiom, sorry.
-/
import Derived.Test.YtnllfppkfdnjpaaDoorRows
import GoSem.ClaimSeven
namespace Go.Proofs.YtnllfppkfdnjpaaDoor
namespace Rows

/-- THE TIED CARD OF 'slotcodelaw04.InsnUses'. -/
def insnUsesCard : Claim7 := { stood := { row := insnUsesRow, standIns := [], harness := (true, "eb6ae011c1e9027c34209f34396cc20521d8bbc718c15a5d2862106800d5152b"), looks := false }, kinds := [], alts := [], laidByText := true, laidKinds := [.data, .widerDeep], laidTests := true, laidLooks := .later }
def InsnUsesCardSaid : Prop := Claim7.holds Tryd.pinned (.plain (OpenSpec.ofChange insnUsesSpec)) insnUsesCard

/-- THE TIED CARD OF 'slotcodelaw04.InsnChecks'. -/
def insnChecksCard : Claim7 := { stood := { row := insnChecksRow, standIns := [], harness := (true, "eb6ae011c1e9027c34209f34396cc20521d8bbc718c15a5d2862106800d5152b"), looks := false }, kinds := [], alts := [], laidByText := true, laidKinds := [.data, .widerDeep], laidTests := true, laidLooks := .later }
def InsnChecksCardSaid : Prop := Claim7.holds Tryd.pinned (.plain (OpenSpec.ofChange insnChecksSpec)) insnChecksCard

/-- THE TIED CARD OF 'slotcodelaw04.InsnSlots'. -/
def insnSlotsCard : Claim7 := { stood := { row := insnSlotsRow, standIns := [], harness := (true, "eb6ae011c1e9027c34209f34396cc20521d8bbc718c15a5d2862106800d5152b"), looks := false }, kinds := [], alts := [], laidByText := true, laidKinds := [.data, .widerDeep], laidTests := true, laidLooks := .later }
def InsnSlotsCardSaid : Prop := Claim7.holds Tryd.pinned (.plain (OpenSpec.ofChange insnSlotsSpec)) insnSlotsCard

/-- THE TIED CARD OF 'slotcodelaw04.InsnEnds'. -/
def insnEndsCard : Claim7 := { stood := { row := insnEndsRow, standIns := [], harness := (true, "eb6ae011c1e9027c34209f34396cc20521d8bbc718c15a5d2862106800d5152b"), looks := false }, kinds := [], alts := [], laidByText := true, laidKinds := [.data, .widerDeep], laidTests := true, laidLooks := .later }
def InsnEndsCardSaid : Prop := Claim7.holds Tryd.pinned (.plain (OpenSpec.ofChange insnEndsSpec)) insnEndsCard

/-- THE TIED CARD OF 'slotcodelaw04.InsnZero'. -/
def insnZeroCard : Claim7 := { stood := { row := insnZeroRow, standIns := [], harness := (true, "eb6ae011c1e9027c34209f34396cc20521d8bbc718c15a5d2862106800d5152b"), looks := false }, kinds := [], alts := [], laidByText := true, laidKinds := [.data, .widerDeep], laidTests := true, laidLooks := .later }
def InsnZeroCardSaid : Prop := Claim7.holds Tryd.pinned (.plain (OpenSpec.ofChange insnZeroSpec)) insnZeroCard

/-- THE TIED CARD OF 'slotcodelaw04.InsnWrites'. -/
def insnWritesCard : Claim7 := { stood := { row := insnWritesRow, standIns := [], harness := (true, "eb6ae011c1e9027c34209f34396cc20521d8bbc718c15a5d2862106800d5152b"), looks := false }, kinds := [], alts := [], laidByText := true, laidKinds := [.data, .widerDeep], laidTests := true, laidLooks := .later }
def InsnWritesCardSaid : Prop := Claim7.holds Tryd.pinned (.plain (OpenSpec.ofChange insnWritesSpec)) insnWritesCard

/-- THE TIED CARD OF 'slotcodelaw07.CondHolds'. -/
def condHoldsCard : Claim7 := { stood := { row := condHoldsRow, standIns := [], harness := (true, "eb6ae011c1e9027c34209f34396cc20521d8bbc718c15a5d2862106800d5152b"), looks := false }, kinds := [], alts := [], laidByText := true, laidKinds := [.data, .widerDeep], laidTests := true, laidLooks := .later }
def CondHoldsCardSaid : Prop := Claim7.holds Tryd.pinned (.plain (OpenSpec.ofChange condHoldsSpec)) condHoldsCard

/-- THE TIED CARD OF 'slotcodelaw07.CondPairs'. -/
def condPairsCard : Claim7 := { stood := { row := condPairsRow, standIns := [], harness := (true, "eb6ae011c1e9027c34209f34396cc20521d8bbc718c15a5d2862106800d5152b"), looks := false }, kinds := [], alts := [], laidByText := true, laidKinds := [.data, .widerDeep], laidTests := true, laidLooks := .later }
def CondPairsCardSaid : Prop := Claim7.holds Tryd.pinned (.plain (OpenSpec.ofChange condPairsSpec)) condPairsCard

/-- THE TIED CARD OF 'slotcodelaw07.CondOpposite'. -/
def condOppositeCard : Claim7 := { stood := { row := condOppositeRow, standIns := [], harness := (true, "eb6ae011c1e9027c34209f34396cc20521d8bbc718c15a5d2862106800d5152b"), looks := false }, kinds := [], alts := [], laidByText := true, laidKinds := [.data, .widerDeep], laidTests := true, laidLooks := .later }
def CondOppositeCardSaid : Prop := Claim7.holds Tryd.pinned (.plain (OpenSpec.ofChange condOppositeSpec)) condOppositeCard

/-- THE TIED CARD OF 'slotcodelaw07.CondMirror'. -/
def condMirrorCard : Claim7 := { stood := { row := condMirrorRow, standIns := [], harness := (true, "eb6ae011c1e9027c34209f34396cc20521d8bbc718c15a5d2862106800d5152b"), looks := false }, kinds := [], alts := [], laidByText := true, laidKinds := [.data, .widerDeep], laidTests := true, laidLooks := .later }
def CondMirrorCardSaid : Prop := Claim7.holds Tryd.pinned (.plain (OpenSpec.ofChange condMirrorSpec)) condMirrorCard

/-- THE TIED CARD OF 'slotcodelaw07.CondOrder'. -/
def condOrderCard : Claim7 := { stood := { row := condOrderRow, standIns := [], harness := (true, "eb6ae011c1e9027c34209f34396cc20521d8bbc718c15a5d2862106800d5152b"), looks := false }, kinds := [], alts := [], laidByText := true, laidKinds := [.data, .widerDeep], laidTests := true, laidLooks := .later }
def CondOrderCardSaid : Prop := Claim7.holds Tryd.pinned (.plain (OpenSpec.ofChange condOrderSpec)) condOrderCard

/-- THE TIED CARD OF 'slotcodelaw07.CondLow'. -/
def condLowCard : Claim7 := { stood := { row := condLowRow, standIns := [], harness := (true, "eb6ae011c1e9027c34209f34396cc20521d8bbc718c15a5d2862106800d5152b"), looks := false }, kinds := [], alts := [], laidByText := true, laidKinds := [.data, .widerDeep], laidTests := true, laidLooks := .later }
def CondLowCardSaid : Prop := Claim7.holds Tryd.pinned (.plain (OpenSpec.ofChange condLowSpec)) condLowCard

/-- THE SECOND FORM's CARD OF 'slotcodelaw04.InsnUses'. -/
def insnUsesUptoCard : Claim7 := { stood := { row := insnUsesUptoRow, standIns := [], harness := (true, "eb6ae011c1e9027c34209f34396cc20521d8bbc718c15a5d2862106800d5152b"), looks := false }, kinds := [], alts := [], laidByText := true, laidKinds := [.data, .widerDeep], laidTests := true, laidLooks := .later }
def InsnUsesUptoCardSaid : Prop := Claim7.holds Tryd.pinned (.plain (OpenSpec.upto insnUsesSpec)) insnUsesUptoCard

/-- THE SECOND FORM's CARD OF 'slotcodelaw04.InsnChecks'. -/
def insnChecksUptoCard : Claim7 := { stood := { row := insnChecksUptoRow, standIns := [], harness := (true, "eb6ae011c1e9027c34209f34396cc20521d8bbc718c15a5d2862106800d5152b"), looks := false }, kinds := [], alts := [], laidByText := true, laidKinds := [.data, .widerDeep], laidTests := true, laidLooks := .later }
def InsnChecksUptoCardSaid : Prop := Claim7.holds Tryd.pinned (.plain (OpenSpec.upto insnChecksSpec)) insnChecksUptoCard

/-- THE SECOND FORM's CARD OF 'slotcodelaw04.InsnSlots'. -/
def insnSlotsUptoCard : Claim7 := { stood := { row := insnSlotsUptoRow, standIns := [], harness := (true, "eb6ae011c1e9027c34209f34396cc20521d8bbc718c15a5d2862106800d5152b"), looks := false }, kinds := [], alts := [], laidByText := true, laidKinds := [.data, .widerDeep], laidTests := true, laidLooks := .later }
def InsnSlotsUptoCardSaid : Prop := Claim7.holds Tryd.pinned (.plain (OpenSpec.upto insnSlotsSpec)) insnSlotsUptoCard

/-- THE SECOND FORM's CARD OF 'slotcodelaw04.InsnEnds'. -/
def insnEndsUptoCard : Claim7 := { stood := { row := insnEndsUptoRow, standIns := [], harness := (true, "eb6ae011c1e9027c34209f34396cc20521d8bbc718c15a5d2862106800d5152b"), looks := false }, kinds := [], alts := [], laidByText := true, laidKinds := [.data, .widerDeep], laidTests := true, laidLooks := .later }
def InsnEndsUptoCardSaid : Prop := Claim7.holds Tryd.pinned (.plain (OpenSpec.upto insnEndsSpec)) insnEndsUptoCard

/-- THE SECOND FORM's CARD OF 'slotcodelaw04.InsnZero'. -/
def insnZeroUptoCard : Claim7 := { stood := { row := insnZeroUptoRow, standIns := [], harness := (true, "eb6ae011c1e9027c34209f34396cc20521d8bbc718c15a5d2862106800d5152b"), looks := false }, kinds := [], alts := [], laidByText := true, laidKinds := [.data, .widerDeep], laidTests := true, laidLooks := .later }
def InsnZeroUptoCardSaid : Prop := Claim7.holds Tryd.pinned (.plain (OpenSpec.upto insnZeroSpec)) insnZeroUptoCard

/-- THE SECOND FORM's CARD OF 'slotcodelaw04.InsnWrites'. -/
def insnWritesUptoCard : Claim7 := { stood := { row := insnWritesUptoRow, standIns := [], harness := (true, "eb6ae011c1e9027c34209f34396cc20521d8bbc718c15a5d2862106800d5152b"), looks := false }, kinds := [], alts := [], laidByText := true, laidKinds := [.data, .widerDeep], laidTests := true, laidLooks := .later }
def InsnWritesUptoCardSaid : Prop := Claim7.holds Tryd.pinned (.plain (OpenSpec.upto insnWritesSpec)) insnWritesUptoCard

/-- THE SECOND FORM's CARD OF 'slotcodelaw07.CondHolds'. -/
def condHoldsUptoCard : Claim7 := { stood := { row := condHoldsUptoRow, standIns := [], harness := (true, "eb6ae011c1e9027c34209f34396cc20521d8bbc718c15a5d2862106800d5152b"), looks := false }, kinds := [], alts := [], laidByText := true, laidKinds := [.data, .widerDeep], laidTests := true, laidLooks := .later }
def CondHoldsUptoCardSaid : Prop := Claim7.holds Tryd.pinned (.plain (OpenSpec.upto condHoldsSpec)) condHoldsUptoCard

/-- THE SECOND FORM's CARD OF 'slotcodelaw07.CondPairs'. -/
def condPairsUptoCard : Claim7 := { stood := { row := condPairsUptoRow, standIns := [], harness := (true, "eb6ae011c1e9027c34209f34396cc20521d8bbc718c15a5d2862106800d5152b"), looks := false }, kinds := [], alts := [], laidByText := true, laidKinds := [.data, .widerDeep], laidTests := true, laidLooks := .later }
def CondPairsUptoCardSaid : Prop := Claim7.holds Tryd.pinned (.plain (OpenSpec.upto condPairsSpec)) condPairsUptoCard

/-- THE SECOND FORM's CARD OF 'slotcodelaw07.CondOpposite'. -/
def condOppositeUptoCard : Claim7 := { stood := { row := condOppositeUptoRow, standIns := [], harness := (true, "eb6ae011c1e9027c34209f34396cc20521d8bbc718c15a5d2862106800d5152b"), looks := false }, kinds := [], alts := [], laidByText := true, laidKinds := [.data, .widerDeep], laidTests := true, laidLooks := .later }
def CondOppositeUptoCardSaid : Prop := Claim7.holds Tryd.pinned (.plain (OpenSpec.upto condOppositeSpec)) condOppositeUptoCard

/-- THE SECOND FORM's CARD OF 'slotcodelaw07.CondMirror'. -/
def condMirrorUptoCard : Claim7 := { stood := { row := condMirrorUptoRow, standIns := [], harness := (true, "eb6ae011c1e9027c34209f34396cc20521d8bbc718c15a5d2862106800d5152b"), looks := false }, kinds := [], alts := [], laidByText := true, laidKinds := [.data, .widerDeep], laidTests := true, laidLooks := .later }
def CondMirrorUptoCardSaid : Prop := Claim7.holds Tryd.pinned (.plain (OpenSpec.upto condMirrorSpec)) condMirrorUptoCard

/-- THE SECOND FORM's CARD OF 'slotcodelaw07.CondOrder'. -/
def condOrderUptoCard : Claim7 := { stood := { row := condOrderUptoRow, standIns := [], harness := (true, "eb6ae011c1e9027c34209f34396cc20521d8bbc718c15a5d2862106800d5152b"), looks := false }, kinds := [], alts := [], laidByText := true, laidKinds := [.data, .widerDeep], laidTests := true, laidLooks := .later }
def CondOrderUptoCardSaid : Prop := Claim7.holds Tryd.pinned (.plain (OpenSpec.upto condOrderSpec)) condOrderUptoCard

/-- THE SECOND FORM's CARD OF 'slotcodelaw07.CondLow'. -/
def condLowUptoCard : Claim7 := { stood := { row := condLowUptoRow, standIns := [], harness := (true, "eb6ae011c1e9027c34209f34396cc20521d8bbc718c15a5d2862106800d5152b"), looks := false }, kinds := [], alts := [], laidByText := true, laidKinds := [.data, .widerDeep], laidTests := true, laidLooks := .later }
def CondLowUptoCardSaid : Prop := Claim7.holds Tryd.pinned (.plain (OpenSpec.upto condLowSpec)) condLowUptoCard
end Rows
end Go.Proofs.YtnllfppkfdnjpaaDoor
