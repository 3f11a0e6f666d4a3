/-
  DERIVED. GIVEN WITH THE SEED: THE CARDS: each row of YtgdfeehpbccbnaaDoorRows.lean that lists a variable, with what it lists TIED to the program's text (the seventh form; the later family's looks); each row that meets fmt, with fmt's text TOLD by the authors' own Lean function (tested against real Go, not proved from fmt's source: count such statements apart). THE CARD IS WHAT COUNTS. Prove the row's statement (the work); the ties are given (YtgdfeehpbccbnaaDoorTie.lean); close each card by the builder's one call (the guide's Derived/Test/ToyasCard.lean, 'card_holds'). Laid BY PROGRAM, IN A SANDBOX (cutbox-door.mjs). By AI agents, Wed Nov 11 2026. No macro, syntax, notation, axiom, sorry.
-/
import Derived.Test.YtgdfeehpbccbnaaDoorRows
import GoSem.ClaimSeven
namespace Go.Proofs.YtgdfeehpbccbnaaDoor
namespace Rows

/-- THE TIED CARD OF 'slotcodelaw03.OpsTable'. -/
def opsTableCard : Claim7 := { stood := { row := opsTableRow, standIns := [], harness := (true, "c1e57b4160e44c4140b2f6597acb415df848c01d91c5bb41929ce4c96e7608c8"), looks := false }, kinds := [], alts := [], laidByText := true, laidKinds := [.data], laidTests := true, laidLooks := .later }
def OpsTableCardSaid : Prop := Claim7.holds Tryd.pinned (.plain (OpenSpec.ofChange opsTableSpec)) opsTableCard

/-- THE TIED CARD OF 'slotcodelaw03.OpsFinds'. -/
def opsFindsCard : Claim7 := { stood := { row := opsFindsRow, standIns := [], harness := (true, "c1e57b4160e44c4140b2f6597acb415df848c01d91c5bb41929ce4c96e7608c8"), looks := false }, kinds := [], alts := [], laidByText := true, laidKinds := [.data], laidTests := true, laidLooks := .later }
def OpsFindsCardSaid : Prop := Claim7.holds Tryd.pinned (.plain (OpenSpec.ofChange opsFindsSpec)) opsFindsCard

/-- THE TIED CARD OF 'slotcodelaw03.OpsCodes'. -/
def opsCodesCard : Claim7 := { stood := { row := opsCodesRow, standIns := [], harness := (true, "c1e57b4160e44c4140b2f6597acb415df848c01d91c5bb41929ce4c96e7608c8"), looks := false }, kinds := [], alts := [], laidByText := true, laidKinds := [.data], laidTests := true, laidLooks := .later }
def OpsCodesCardSaid : Prop := Claim7.holds Tryd.pinned (.plain (OpenSpec.ofChange opsCodesSpec)) opsCodesCard

/-- THE TIED CARD OF 'slotcodelaw03.OpsIdentifies'. -/
def opsIdentifiesCard : Claim7 := { stood := { row := opsIdentifiesRow, standIns := [], harness := (true, "c1e57b4160e44c4140b2f6597acb415df848c01d91c5bb41929ce4c96e7608c8"), looks := false }, kinds := [], alts := [], laidByText := true, laidKinds := [.data], laidTests := true, laidLooks := .later }
def OpsIdentifiesCardSaid : Prop := Claim7.holds Tryd.pinned (.plain (OpenSpec.ofChange opsIdentifiesSpec)) opsIdentifiesCard

/-- THE TIED CARD OF 'slotcodelaw03.OpsFixed'. -/
def opsFixedCard : Claim7 := { stood := { row := opsFixedRow, standIns := [], harness := (true, "c1e57b4160e44c4140b2f6597acb415df848c01d91c5bb41929ce4c96e7608c8"), looks := false }, kinds := [], alts := [], laidByText := true, laidKinds := [.data], laidTests := true, laidLooks := .later }
def OpsFixedCardSaid : Prop := Claim7.holds Tryd.pinned (.plain (OpenSpec.ofChange opsFixedSpec)) opsFixedCard

/-- THE TIED CARD OF 'slotcodelaw03.OpsInverts'. -/
def opsInvertsCard : Claim7 := { stood := { row := opsInvertsRow, standIns := [], harness := (true, "c1e57b4160e44c4140b2f6597acb415df848c01d91c5bb41929ce4c96e7608c8"), looks := false }, kinds := [], alts := [], laidByText := true, laidKinds := [.data], laidTests := true, laidLooks := .later }
def OpsInvertsCardSaid : Prop := Claim7.holds Tryd.pinned (.plain (OpenSpec.ofChange opsInvertsSpec)) opsInvertsCard

/-- THE TIED CARD OF 'slotcodelaw12.LayoutStarts'. -/
def layoutStartsCard : Claim7 := { stood := { row := layoutStartsRow, standIns := [], harness := (true, "c1e57b4160e44c4140b2f6597acb415df848c01d91c5bb41929ce4c96e7608c8"), looks := false }, kinds := [], alts := [], laidByText := true, laidKinds := [.data], laidTests := true, laidLooks := .later }
def LayoutStartsCardSaid : Prop := Claim7.holds Tryd.pinned (.plain (OpenSpec.ofChange layoutStartsSpec)) layoutStartsCard

/-- THE TIED CARD OF 'slotcodelaw12.LayoutAt'. -/
def layoutAtCard : Claim7 := { stood := { row := layoutAtRow, standIns := [], harness := (true, "c1e57b4160e44c4140b2f6597acb415df848c01d91c5bb41929ce4c96e7608c8"), looks := false }, kinds := [], alts := [], laidByText := true, laidKinds := [.data], laidTests := true, laidLooks := .later }
def LayoutAtCardSaid : Prop := Claim7.holds Tryd.pinned (.plain (OpenSpec.ofChange layoutAtSpec)) layoutAtCard

/-- THE TIED CARD OF 'slotcodelaw12.LayoutDistances'. -/
def layoutDistancesCard : Claim7 := { stood := { row := layoutDistancesRow, standIns := [], harness := (true, "c1e57b4160e44c4140b2f6597acb415df848c01d91c5bb41929ce4c96e7608c8"), looks := false }, kinds := [], alts := [], laidByText := true, laidKinds := [.data], laidTests := true, laidLooks := .later }
def LayoutDistancesCardSaid : Prop := Claim7.holds Tryd.pinned (.plain (OpenSpec.ofChange layoutDistancesSpec)) layoutDistancesCard

/-- THE TIED CARD OF 'slotcodelaw12.LayoutTargets'. -/
def layoutTargetsCard : Claim7 := { stood := { row := layoutTargetsRow, standIns := [], harness := (true, "c1e57b4160e44c4140b2f6597acb415df848c01d91c5bb41929ce4c96e7608c8"), looks := false }, kinds := [], alts := [], laidByText := true, laidKinds := [.data], laidTests := true, laidLooks := .later }
def LayoutTargetsCardSaid : Prop := Claim7.holds Tryd.pinned (.plain (OpenSpec.ofChange layoutTargetsSpec)) layoutTargetsCard

/-- THE TIED CARD OF 'slotcodelaw12.LayoutInverts'. -/
def layoutInvertsCard : Claim7 := { stood := { row := layoutInvertsRow, standIns := [], harness := (true, "c1e57b4160e44c4140b2f6597acb415df848c01d91c5bb41929ce4c96e7608c8"), looks := false }, kinds := [], alts := [], laidByText := true, laidKinds := [.data], laidTests := true, laidLooks := .later }
def LayoutInvertsCardSaid : Prop := Claim7.holds Tryd.pinned (.plain (OpenSpec.ofChange layoutInvertsSpec)) layoutInvertsCard

/-- THE TIED CARD OF 'slotcodelaw12.LayoutPrograms'. -/
def layoutProgramsCard : Claim7 := { stood := { row := layoutProgramsRow, standIns := [], harness := (true, "c1e57b4160e44c4140b2f6597acb415df848c01d91c5bb41929ce4c96e7608c8"), looks := false }, kinds := [], alts := [], laidByText := true, laidKinds := [.data], laidTests := true, laidLooks := .later }
def LayoutProgramsCardSaid : Prop := Claim7.holds Tryd.pinned (.plain (OpenSpec.ofChange layoutProgramsSpec)) layoutProgramsCard

/-- THE SECOND FORM's CARD OF 'slotcodelaw03.OpsTable'. -/
def opsTableUptoCard : Claim7 := { stood := { row := opsTableUptoRow, standIns := [], harness := (true, "c1e57b4160e44c4140b2f6597acb415df848c01d91c5bb41929ce4c96e7608c8"), looks := false }, kinds := [], alts := [], laidByText := true, laidKinds := [.data], laidTests := true, laidLooks := .later }
def OpsTableUptoCardSaid : Prop := Claim7.holds Tryd.pinned (.plain (OpenSpec.upto opsTableSpec)) opsTableUptoCard

/-- THE SECOND FORM's CARD OF 'slotcodelaw03.OpsFinds'. -/
def opsFindsUptoCard : Claim7 := { stood := { row := opsFindsUptoRow, standIns := [], harness := (true, "c1e57b4160e44c4140b2f6597acb415df848c01d91c5bb41929ce4c96e7608c8"), looks := false }, kinds := [], alts := [], laidByText := true, laidKinds := [.data], laidTests := true, laidLooks := .later }
def OpsFindsUptoCardSaid : Prop := Claim7.holds Tryd.pinned (.plain (OpenSpec.upto opsFindsSpec)) opsFindsUptoCard

/-- THE SECOND FORM's CARD OF 'slotcodelaw03.OpsCodes'. -/
def opsCodesUptoCard : Claim7 := { stood := { row := opsCodesUptoRow, standIns := [], harness := (true, "c1e57b4160e44c4140b2f6597acb415df848c01d91c5bb41929ce4c96e7608c8"), looks := false }, kinds := [], alts := [], laidByText := true, laidKinds := [.data], laidTests := true, laidLooks := .later }
def OpsCodesUptoCardSaid : Prop := Claim7.holds Tryd.pinned (.plain (OpenSpec.upto opsCodesSpec)) opsCodesUptoCard

/-- THE SECOND FORM's CARD OF 'slotcodelaw03.OpsIdentifies'. -/
def opsIdentifiesUptoCard : Claim7 := { stood := { row := opsIdentifiesUptoRow, standIns := [], harness := (true, "c1e57b4160e44c4140b2f6597acb415df848c01d91c5bb41929ce4c96e7608c8"), looks := false }, kinds := [], alts := [], laidByText := true, laidKinds := [.data], laidTests := true, laidLooks := .later }
def OpsIdentifiesUptoCardSaid : Prop := Claim7.holds Tryd.pinned (.plain (OpenSpec.upto opsIdentifiesSpec)) opsIdentifiesUptoCard

/-- THE SECOND FORM's CARD OF 'slotcodelaw03.OpsFixed'. -/
def opsFixedUptoCard : Claim7 := { stood := { row := opsFixedUptoRow, standIns := [], harness := (true, "c1e57b4160e44c4140b2f6597acb415df848c01d91c5bb41929ce4c96e7608c8"), looks := false }, kinds := [], alts := [], laidByText := true, laidKinds := [.data], laidTests := true, laidLooks := .later }
def OpsFixedUptoCardSaid : Prop := Claim7.holds Tryd.pinned (.plain (OpenSpec.upto opsFixedSpec)) opsFixedUptoCard

/-- THE SECOND FORM's CARD OF 'slotcodelaw03.OpsInverts'. -/
def opsInvertsUptoCard : Claim7 := { stood := { row := opsInvertsUptoRow, standIns := [], harness := (true, "c1e57b4160e44c4140b2f6597acb415df848c01d91c5bb41929ce4c96e7608c8"), looks := false }, kinds := [], alts := [], laidByText := true, laidKinds := [.data], laidTests := true, laidLooks := .later }
def OpsInvertsUptoCardSaid : Prop := Claim7.holds Tryd.pinned (.plain (OpenSpec.upto opsInvertsSpec)) opsInvertsUptoCard

/-- THE SECOND FORM's CARD OF 'slotcodelaw12.LayoutStarts'. -/
def layoutStartsUptoCard : Claim7 := { stood := { row := layoutStartsUptoRow, standIns := [], harness := (true, "c1e57b4160e44c4140b2f6597acb415df848c01d91c5bb41929ce4c96e7608c8"), looks := false }, kinds := [], alts := [], laidByText := true, laidKinds := [.data], laidTests := true, laidLooks := .later }
def LayoutStartsUptoCardSaid : Prop := Claim7.holds Tryd.pinned (.plain (OpenSpec.upto layoutStartsSpec)) layoutStartsUptoCard

/-- THE SECOND FORM's CARD OF 'slotcodelaw12.LayoutAt'. -/
def layoutAtUptoCard : Claim7 := { stood := { row := layoutAtUptoRow, standIns := [], harness := (true, "c1e57b4160e44c4140b2f6597acb415df848c01d91c5bb41929ce4c96e7608c8"), looks := false }, kinds := [], alts := [], laidByText := true, laidKinds := [.data], laidTests := true, laidLooks := .later }
def LayoutAtUptoCardSaid : Prop := Claim7.holds Tryd.pinned (.plain (OpenSpec.upto layoutAtSpec)) layoutAtUptoCard

/-- THE SECOND FORM's CARD OF 'slotcodelaw12.LayoutDistances'. -/
def layoutDistancesUptoCard : Claim7 := { stood := { row := layoutDistancesUptoRow, standIns := [], harness := (true, "c1e57b4160e44c4140b2f6597acb415df848c01d91c5bb41929ce4c96e7608c8"), looks := false }, kinds := [], alts := [], laidByText := true, laidKinds := [.data], laidTests := true, laidLooks := .later }
def LayoutDistancesUptoCardSaid : Prop := Claim7.holds Tryd.pinned (.plain (OpenSpec.upto layoutDistancesSpec)) layoutDistancesUptoCard

/-- THE SECOND FORM's CARD OF 'slotcodelaw12.LayoutTargets'. -/
def layoutTargetsUptoCard : Claim7 := { stood := { row := layoutTargetsUptoRow, standIns := [], harness := (true, "c1e57b4160e44c4140b2f6597acb415df848c01d91c5bb41929ce4c96e7608c8"), looks := false }, kinds := [], alts := [], laidByText := true, laidKinds := [.data], laidTests := true, laidLooks := .later }
def LayoutTargetsUptoCardSaid : Prop := Claim7.holds Tryd.pinned (.plain (OpenSpec.upto layoutTargetsSpec)) layoutTargetsUptoCard

/-- THE SECOND FORM's CARD OF 'slotcodelaw12.LayoutInverts'. -/
def layoutInvertsUptoCard : Claim7 := { stood := { row := layoutInvertsUptoRow, standIns := [], harness := (true, "c1e57b4160e44c4140b2f6597acb415df848c01d91c5bb41929ce4c96e7608c8"), looks := false }, kinds := [], alts := [], laidByText := true, laidKinds := [.data], laidTests := true, laidLooks := .later }
def LayoutInvertsUptoCardSaid : Prop := Claim7.holds Tryd.pinned (.plain (OpenSpec.upto layoutInvertsSpec)) layoutInvertsUptoCard

/-- THE SECOND FORM's CARD OF 'slotcodelaw12.LayoutPrograms'. -/
def layoutProgramsUptoCard : Claim7 := { stood := { row := layoutProgramsUptoRow, standIns := [], harness := (true, "c1e57b4160e44c4140b2f6597acb415df848c01d91c5bb41929ce4c96e7608c8"), looks := false }, kinds := [], alts := [], laidByText := true, laidKinds := [.data], laidTests := true, laidLooks := .later }
def LayoutProgramsUptoCardSaid : Prop := Claim7.holds Tryd.pinned (.plain (OpenSpec.upto layoutProgramsSpec)) layoutProgramsUptoCard
end Rows
end Go.Proofs.YtgdfeehpbccbnaaDoor
