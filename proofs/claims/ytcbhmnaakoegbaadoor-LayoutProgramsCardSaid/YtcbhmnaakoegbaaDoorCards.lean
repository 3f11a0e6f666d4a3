/-
  DERIVED. GIVEN WITH THE SEED: THE CARDS: each row of YtcbhmnaakoegbaaDoorRows.lean that lists a variable, with what it lists TIED to the program's text (the seventh form; the later family's looks); each row that meets fmt, with fmt's text TOLD by the authors' own Lean function (tested against real Go, not proved from fmt's source: count such statements apart). THE CARD IS WHAT COUNTS. Prove the row's statement (the work); the ties are given (YtcbhmnaakoegbaaDoorTie.lean); close each card by the builder's one call (the guide's Derived/Test/ToyasCard.lean, 'card_holds'). Laid BY PROGRAM, IN A SANDBOX (cutbox-door.mjs). By AI agents, Wed Nov 11 2026. No macro, syntax, notation, axiom, sorry.
-/
import Derived.Test.YtcbhmnaakoegbaaDoorRows
import GoSem.ClaimSeven
namespace Go.Proofs.YtcbhmnaakoegbaaDoor
namespace Rows

/-- THE TIED CARD OF 'slotcodelaw12.LayoutPrograms'. -/
def layoutProgramsCard : Claim7 := { stood := { row := layoutProgramsRow, standIns := [], harness := (true, "f932cb027c9dfcd2b16efb2474c83b8e88bd068b3d720914c9787efaff823d06"), looks := false }, kinds := [], alts := [], laidByText := true, laidKinds := [.data], laidTests := true, laidLooks := .later }
def LayoutProgramsCardSaid : Prop := Claim7.holds Tryd.pinned (.plain (OpenSpec.ofChange layoutProgramsSpec)) layoutProgramsCard

/-- THE SECOND FORM's CARD OF 'slotcodelaw12.LayoutPrograms'. -/
def layoutProgramsUptoCard : Claim7 := { stood := { row := layoutProgramsUptoRow, standIns := [], harness := (true, "f932cb027c9dfcd2b16efb2474c83b8e88bd068b3d720914c9787efaff823d06"), looks := false }, kinds := [], alts := [], laidByText := true, laidKinds := [.data], laidTests := true, laidLooks := .later }
def LayoutProgramsUptoCardSaid : Prop := Claim7.holds Tryd.pinned (.plain (OpenSpec.upto layoutProgramsSpec)) layoutProgramsUptoCard
end Rows
end Go.Proofs.YtcbhmnaakoegbaaDoor
