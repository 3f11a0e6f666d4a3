/-
  NARROWER THAN 'FOR EVERY INPUT', by the rows' own cells (each row's printed sentence says how): OpsTable: laid · OpsFinds: laid · OpsCodes: laid · OpsIdentifies: laid · OpsFixed: laid · OpsInverts: laid · LayoutStarts: laid · LayoutAt: laid · LayoutDistances: laid · LayoutTargets: laid · LayoutInverts: laid · LayoutPrograms: laid.
  DERIVED. THE GIVEN ROWS OF THIS SEAT. 12 by the template 'for every input the law returns true; each argument reads behind the call as it read before'; 0 by the template 'total and deterministic' (their statements: YtgdfeehpbccbnaaDoorTotals.lean).
  GIVEN WITH THE SEED: the statements are not yours to turn. If you find one false, say at which input.
  Laid BY PROGRAM, IN A SANDBOX (cutbox-rows.mjs): the forced cells as the released guide's own fill.sh prints them over the translation b42944e043917221… (all of the seat's roots in one cut). By AI agents, Wed Nov 11 2026. No macro, syntax, notation, axiom, sorry.
-/
import Derived.Test.YtgdfeehpbccbnaaDoorChecked
import GoSem.Claim
import GoSem.ClaimJoined
import GoSem.ClaimMapViews
import Derived.JoinedTies
import Derived.KernelRfl
namespace Go.Proofs.YtgdfeehpbccbnaaDoor
/- THE CELL 'sum', in the pinned program and in every row, IS THE sha256 OF THE DUMP (.gsa) THAT YtgdfeehpbccbnaaDoorProg.lean LOADS. Nothing in Lean hashes anything: it is a label: what it is worth is what the hold of that sum in a sandbox is worth. -/
noncomputable def Tryd.pinned : Pinned := { name := "ytgdfeehpbccbnaadoor", sum := "b42944e0439172212ed2a3d3f0d65ce20309e614d0c4651539d27c993209607e", checked := Tryd.checked }
namespace Rows
def none {H : Type} : Left H := { results := [], args := [] }

/- WHAT THE LISTED PACKAGE-LEVEL VARIABLES READ AS WHEN THE CALL BEGINS. Each datum BY PROGRAM (the guide's laid-datum.mjs) off the statement by which the dump's own 'gosem.cut.vars' lays the variable. In a bare row this is a premise. The card (YtgdfeehpbccbnaaDoorCards.lean) ties it to the program's text. -/
def laid_slotcode_ops_none {H : Type} : DataW H := .agg [.lit (.string []), .lit (.int .i64 (-1)), .lit (.int .i64 0), .lit (.int .u8 0), .lit (.int .i64 0), .lit (.int .i64 0), .lit (.int .i64 0)]

/-- 'slotcodelaw03.OpsTable': WHATEVER THE INPUT: true; the input reads as it did. -/
def opsTableSpec : ChangeSpec := { name := "opsTable", fn := fun _ => fun
  | [d] => { results := [.lit (.bool true)], args := [d] }
  | _ => none }
def opsTableRow : OpenClaim := { program := "ytgdfeehpbccbnaadoor", sum := "b42944e0439172212ed2a3d3f0d65ce20309e614d0c4651539d27c993209607e", func := "slotcode/slotcodelaw03.OpsTable", spec := "opsTable", named := ["slotcode/ops.none"], apart := false, laid := [("slotcode/ops.none", laid_slotcode_ops_none)] }
def OpsTableSaid : Prop := opsTableRow.holds Tryd.pinned (OpenSpec.ofChange opsTableSpec)

/-- ITS FALSE NEIGHBOUR: 'it returns false'. Refute it at one input. -/
def opsTableWrong : ChangeSpec := { name := "opsTable", fn := fun _ => fun
  | [d] => { results := [.lit (.bool false)], args := [d] }
  | _ => none }
def OpsTableWrongFalsely : Prop := opsTableRow.holds Tryd.pinned (OpenSpec.ofChange opsTableWrong)

/-- 'slotcodelaw03.OpsFinds': WHATEVER THE INPUT: true; the input reads as it did. -/
def opsFindsSpec : ChangeSpec := { name := "opsFinds", fn := fun _ => fun
  | [d] => { results := [.lit (.bool true)], args := [d] }
  | _ => none }
def opsFindsRow : OpenClaim := { program := "ytgdfeehpbccbnaadoor", sum := "b42944e0439172212ed2a3d3f0d65ce20309e614d0c4651539d27c993209607e", func := "slotcode/slotcodelaw03.OpsFinds", spec := "opsFinds", named := ["slotcode/ops.none"], apart := false, laid := [("slotcode/ops.none", laid_slotcode_ops_none)] }
def OpsFindsSaid : Prop := opsFindsRow.holds Tryd.pinned (OpenSpec.ofChange opsFindsSpec)

/-- ITS FALSE NEIGHBOUR: 'it returns false'. Refute it at one input. -/
def opsFindsWrong : ChangeSpec := { name := "opsFinds", fn := fun _ => fun
  | [d] => { results := [.lit (.bool false)], args := [d] }
  | _ => none }
def OpsFindsWrongFalsely : Prop := opsFindsRow.holds Tryd.pinned (OpenSpec.ofChange opsFindsWrong)

/-- 'slotcodelaw03.OpsCodes': WHATEVER THE INPUT: true; the input reads as it did. -/
def opsCodesSpec : ChangeSpec := { name := "opsCodes", fn := fun _ => fun
  | [d] => { results := [.lit (.bool true)], args := [d] }
  | _ => none }
def opsCodesRow : OpenClaim := { program := "ytgdfeehpbccbnaadoor", sum := "b42944e0439172212ed2a3d3f0d65ce20309e614d0c4651539d27c993209607e", func := "slotcode/slotcodelaw03.OpsCodes", spec := "opsCodes", named := ["slotcode/ops.none"], apart := false, laid := [("slotcode/ops.none", laid_slotcode_ops_none)] }
def OpsCodesSaid : Prop := opsCodesRow.holds Tryd.pinned (OpenSpec.ofChange opsCodesSpec)

/-- ITS FALSE NEIGHBOUR: 'it returns false'. Refute it at one input. -/
def opsCodesWrong : ChangeSpec := { name := "opsCodes", fn := fun _ => fun
  | [d] => { results := [.lit (.bool false)], args := [d] }
  | _ => none }
def OpsCodesWrongFalsely : Prop := opsCodesRow.holds Tryd.pinned (OpenSpec.ofChange opsCodesWrong)

/-- 'slotcodelaw03.OpsIdentifies': WHATEVER THE INPUT: true; the input reads as it did. -/
def opsIdentifiesSpec : ChangeSpec := { name := "opsIdentifies", fn := fun _ => fun
  | [d1, d2, d3] => { results := [.lit (.bool true)], args := [d1, d2, d3] }
  | _ => none }
def opsIdentifiesRow : OpenClaim := { program := "ytgdfeehpbccbnaadoor", sum := "b42944e0439172212ed2a3d3f0d65ce20309e614d0c4651539d27c993209607e", func := "slotcode/slotcodelaw03.OpsIdentifies", spec := "opsIdentifies", named := ["slotcode/ops.none"], apart := false, laid := [("slotcode/ops.none", laid_slotcode_ops_none)] }
def OpsIdentifiesSaid : Prop := opsIdentifiesRow.holds Tryd.pinned (OpenSpec.ofChange opsIdentifiesSpec)

/-- ITS FALSE NEIGHBOUR: 'it returns false'. Refute it at one input. -/
def opsIdentifiesWrong : ChangeSpec := { name := "opsIdentifies", fn := fun _ => fun
  | [d1, d2, d3] => { results := [.lit (.bool false)], args := [d1, d2, d3] }
  | _ => none }
def OpsIdentifiesWrongFalsely : Prop := opsIdentifiesRow.holds Tryd.pinned (OpenSpec.ofChange opsIdentifiesWrong)

/-- 'slotcodelaw03.OpsFixed': WHATEVER THE INPUT: true; the input reads as it did. -/
def opsFixedSpec : ChangeSpec := { name := "opsFixed", fn := fun _ => fun
  | [d] => { results := [.lit (.bool true)], args := [d] }
  | _ => none }
def opsFixedRow : OpenClaim := { program := "ytgdfeehpbccbnaadoor", sum := "b42944e0439172212ed2a3d3f0d65ce20309e614d0c4651539d27c993209607e", func := "slotcode/slotcodelaw03.OpsFixed", spec := "opsFixed", named := ["slotcode/ops.none"], apart := false, laid := [("slotcode/ops.none", laid_slotcode_ops_none)] }
def OpsFixedSaid : Prop := opsFixedRow.holds Tryd.pinned (OpenSpec.ofChange opsFixedSpec)

/-- ITS FALSE NEIGHBOUR: 'it returns false'. Refute it at one input. -/
def opsFixedWrong : ChangeSpec := { name := "opsFixed", fn := fun _ => fun
  | [d] => { results := [.lit (.bool false)], args := [d] }
  | _ => none }
def OpsFixedWrongFalsely : Prop := opsFixedRow.holds Tryd.pinned (OpenSpec.ofChange opsFixedWrong)

/-- 'slotcodelaw03.OpsInverts': WHATEVER THE INPUT: true; the input reads as it did. -/
def opsInvertsSpec : ChangeSpec := { name := "opsInverts", fn := fun _ => fun
  | [d1, d2, d3] => { results := [.lit (.bool true)], args := [d1, d2, d3] }
  | _ => none }
def opsInvertsRow : OpenClaim := { program := "ytgdfeehpbccbnaadoor", sum := "b42944e0439172212ed2a3d3f0d65ce20309e614d0c4651539d27c993209607e", func := "slotcode/slotcodelaw03.OpsInverts", spec := "opsInverts", named := ["slotcode/ops.none"], apart := false, laid := [("slotcode/ops.none", laid_slotcode_ops_none)] }
def OpsInvertsSaid : Prop := opsInvertsRow.holds Tryd.pinned (OpenSpec.ofChange opsInvertsSpec)

/-- ITS FALSE NEIGHBOUR: 'it returns false'. Refute it at one input. -/
def opsInvertsWrong : ChangeSpec := { name := "opsInverts", fn := fun _ => fun
  | [d1, d2, d3] => { results := [.lit (.bool false)], args := [d1, d2, d3] }
  | _ => none }
def OpsInvertsWrongFalsely : Prop := opsInvertsRow.holds Tryd.pinned (OpenSpec.ofChange opsInvertsWrong)

/-- 'slotcodelaw12.LayoutStarts': WHATEVER THE INPUT: true; the input reads as it did. -/
def layoutStartsSpec : ChangeSpec := { name := "layoutStarts", fn := fun _ => fun
  | [d] => { results := [.lit (.bool true)], args := [d] }
  | _ => none }
def layoutStartsRow : OpenClaim := { program := "ytgdfeehpbccbnaadoor", sum := "b42944e0439172212ed2a3d3f0d65ce20309e614d0c4651539d27c993209607e", func := "slotcode/slotcodelaw12.LayoutStarts", spec := "layoutStarts", unfollowed := true, recurses := true, named := ["slotcode/ops.none"], apart := false, laid := [("slotcode/ops.none", laid_slotcode_ops_none)] }
def LayoutStartsSaid : Prop := layoutStartsRow.holds Tryd.pinned (OpenSpec.ofChange layoutStartsSpec)

/-- ITS FALSE NEIGHBOUR: 'it returns false'. Refute it at one input. -/
def layoutStartsWrong : ChangeSpec := { name := "layoutStarts", fn := fun _ => fun
  | [d] => { results := [.lit (.bool false)], args := [d] }
  | _ => none }
def LayoutStartsWrongFalsely : Prop := layoutStartsRow.holds Tryd.pinned (OpenSpec.ofChange layoutStartsWrong)

/-- 'slotcodelaw12.LayoutAt': WHATEVER THE INPUT: true; the input reads as it did. -/
def layoutAtSpec : ChangeSpec := { name := "layoutAt", fn := fun _ => fun
  | [d1, d2] => { results := [.lit (.bool true)], args := [d1, d2] }
  | _ => none }
def layoutAtRow : OpenClaim := { program := "ytgdfeehpbccbnaadoor", sum := "b42944e0439172212ed2a3d3f0d65ce20309e614d0c4651539d27c993209607e", func := "slotcode/slotcodelaw12.LayoutAt", spec := "layoutAt", unfollowed := true, recurses := true, named := ["slotcode/ops.none"], apart := false, laid := [("slotcode/ops.none", laid_slotcode_ops_none)] }
def LayoutAtSaid : Prop := layoutAtRow.holds Tryd.pinned (OpenSpec.ofChange layoutAtSpec)

/-- ITS FALSE NEIGHBOUR: 'it returns false'. Refute it at one input. -/
def layoutAtWrong : ChangeSpec := { name := "layoutAt", fn := fun _ => fun
  | [d1, d2] => { results := [.lit (.bool false)], args := [d1, d2] }
  | _ => none }
def LayoutAtWrongFalsely : Prop := layoutAtRow.holds Tryd.pinned (OpenSpec.ofChange layoutAtWrong)

/-- 'slotcodelaw12.LayoutDistances': WHATEVER THE INPUT: true; the input reads as it did. -/
def layoutDistancesSpec : ChangeSpec := { name := "layoutDistances", fn := fun _ => fun
  | [d1, d2, d3] => { results := [.lit (.bool true)], args := [d1, d2, d3] }
  | _ => none }
def layoutDistancesRow : OpenClaim := { program := "ytgdfeehpbccbnaadoor", sum := "b42944e0439172212ed2a3d3f0d65ce20309e614d0c4651539d27c993209607e", func := "slotcode/slotcodelaw12.LayoutDistances", spec := "layoutDistances", unfollowed := true, recurses := true, named := ["slotcode/ops.none"], apart := false, laid := [("slotcode/ops.none", laid_slotcode_ops_none)] }
def LayoutDistancesSaid : Prop := layoutDistancesRow.holds Tryd.pinned (OpenSpec.ofChange layoutDistancesSpec)

/-- ITS FALSE NEIGHBOUR: 'it returns false'. Refute it at one input. -/
def layoutDistancesWrong : ChangeSpec := { name := "layoutDistances", fn := fun _ => fun
  | [d1, d2, d3] => { results := [.lit (.bool false)], args := [d1, d2, d3] }
  | _ => none }
def LayoutDistancesWrongFalsely : Prop := layoutDistancesRow.holds Tryd.pinned (OpenSpec.ofChange layoutDistancesWrong)

/-- 'slotcodelaw12.LayoutTargets': WHATEVER THE INPUT: true; the input reads as it did. -/
def layoutTargetsSpec : ChangeSpec := { name := "layoutTargets", fn := fun _ => fun
  | [d1, d2, d3] => { results := [.lit (.bool true)], args := [d1, d2, d3] }
  | _ => none }
def layoutTargetsRow : OpenClaim := { program := "ytgdfeehpbccbnaadoor", sum := "b42944e0439172212ed2a3d3f0d65ce20309e614d0c4651539d27c993209607e", func := "slotcode/slotcodelaw12.LayoutTargets", spec := "layoutTargets", unfollowed := true, recurses := true, named := ["slotcode/ops.none"], apart := false, laid := [("slotcode/ops.none", laid_slotcode_ops_none)] }
def LayoutTargetsSaid : Prop := layoutTargetsRow.holds Tryd.pinned (OpenSpec.ofChange layoutTargetsSpec)

/-- ITS FALSE NEIGHBOUR: 'it returns false'. Refute it at one input. -/
def layoutTargetsWrong : ChangeSpec := { name := "layoutTargets", fn := fun _ => fun
  | [d1, d2, d3] => { results := [.lit (.bool false)], args := [d1, d2, d3] }
  | _ => none }
def LayoutTargetsWrongFalsely : Prop := layoutTargetsRow.holds Tryd.pinned (OpenSpec.ofChange layoutTargetsWrong)

/-- 'slotcodelaw12.LayoutInverts': WHATEVER THE INPUT: true; the input reads as it did. -/
def layoutInvertsSpec : ChangeSpec := { name := "layoutInverts", fn := fun _ => fun
  | [d1, d2, d3] => { results := [.lit (.bool true)], args := [d1, d2, d3] }
  | _ => none }
def layoutInvertsRow : OpenClaim := { program := "ytgdfeehpbccbnaadoor", sum := "b42944e0439172212ed2a3d3f0d65ce20309e614d0c4651539d27c993209607e", func := "slotcode/slotcodelaw12.LayoutInverts", spec := "layoutInverts", unfollowed := true, recurses := true, named := ["slotcode/ops.none"], apart := false, laid := [("slotcode/ops.none", laid_slotcode_ops_none)] }
def LayoutInvertsSaid : Prop := layoutInvertsRow.holds Tryd.pinned (OpenSpec.ofChange layoutInvertsSpec)

/-- ITS FALSE NEIGHBOUR: 'it returns false'. Refute it at one input. -/
def layoutInvertsWrong : ChangeSpec := { name := "layoutInverts", fn := fun _ => fun
  | [d1, d2, d3] => { results := [.lit (.bool false)], args := [d1, d2, d3] }
  | _ => none }
def LayoutInvertsWrongFalsely : Prop := layoutInvertsRow.holds Tryd.pinned (OpenSpec.ofChange layoutInvertsWrong)

/-- 'slotcodelaw12.LayoutPrograms': WHATEVER THE INPUT: true; the input reads as it did. -/
def layoutProgramsSpec : ChangeSpec := { name := "layoutPrograms", fn := fun _ => fun
  | [d] => { results := [.lit (.bool true)], args := [d] }
  | _ => none }
def layoutProgramsRow : OpenClaim := { program := "ytgdfeehpbccbnaadoor", sum := "b42944e0439172212ed2a3d3f0d65ce20309e614d0c4651539d27c993209607e", func := "slotcode/slotcodelaw12.LayoutPrograms", spec := "layoutPrograms", unfollowed := true, recurses := true, named := ["slotcode/ops.none"], apart := false, laid := [("slotcode/ops.none", laid_slotcode_ops_none)] }
def LayoutProgramsSaid : Prop := layoutProgramsRow.holds Tryd.pinned (OpenSpec.ofChange layoutProgramsSpec)

/-- ITS FALSE NEIGHBOUR: 'it returns false'. Refute it at one input. -/
def layoutProgramsWrong : ChangeSpec := { name := "layoutPrograms", fn := fun _ => fun
  | [d] => { results := [.lit (.bool false)], args := [d] }
  | _ => none }
def LayoutProgramsWrongFalsely : Prop := layoutProgramsRow.holds Tryd.pinned (OpenSpec.ofChange layoutProgramsWrong)

/- THE SECOND FORM. 'bulk': how many values and letters a reading holds, each counted each time it is reached (what is shared counts as often as it is met; a slice's spare places count too). A statement '..UptoSaid' is the law's where the arguments, and the package variables that the reading takes, are together of bulk at most 1048576: NARROWER than '..Said'. Prove '..Said' where nothing that the law and all that it calls make is longer than what came in: it says more and counts as full. Else prove '..UptoSaid'. A law counts once. -/
mutual
def uptoBulk {H : Type} : DataW H → Nat
  | .lit (.string bytes) => bytes.length + 1
  | .lit _ => 1
  | .nil => 1
  | .ptr d => uptoBulk d + 1
  | .slice elems spare => uptoBulkAll elems + uptoBulkAll spare + 1
  | .agg parts => uptoBulkAll parts + 1
  | .iface _ d => uptoBulk d + 1
  | .map entries => uptoBulkEntries entries + 1
  | .held _ => 1
def uptoBulkAll {H : Type} : List (DataW H) → Nat
  | [] => 0
  | d :: r => uptoBulk d + uptoBulkAll r
def uptoBulkEntries {H : Type} : List (Lit × DataW H) → Nat
  | [] => 0
  | x :: r => uptoBulkEntry x + uptoBulkEntries r
def uptoBulkEntry {H : Type} : Lit × DataW H → Nat
  | (.string bytes, d) => bytes.length + uptoBulk d + 1
  | (_, d) => uptoBulk d + 1
 end
def uptoSmall : (H : Type) → List (DataW H) → Bool := fun _ ds => decide (uptoBulkAll ds ≤ 1048576)
def OpenSpec.upto (s : _root_.Go.ChangeSpec) : _root_.Go.OpenSpec := { _root_.Go.OpenSpec.ofChange s with cond := some uptoSmall }

/-- 'slotcodelaw03.OpsTable', WHERE WHAT IT READS IS OF BULK AT MOST 1048576: true; the input reads as it did. -/
def opsTableUptoRow : OpenClaim := { program := "ytgdfeehpbccbnaadoor", sum := "b42944e0439172212ed2a3d3f0d65ce20309e614d0c4651539d27c993209607e", func := "slotcode/slotcodelaw03.OpsTable", spec := "opsTable", named := ["slotcode/ops.none"], apart := false, laid := [("slotcode/ops.none", laid_slotcode_ops_none)], narrowed := true }
def OpsTableUptoSaid : Prop := opsTableUptoRow.holds Tryd.pinned (OpenSpec.upto opsTableSpec)

/-- 'slotcodelaw03.OpsFinds', WHERE WHAT IT READS IS OF BULK AT MOST 1048576: true; the input reads as it did. -/
def opsFindsUptoRow : OpenClaim := { program := "ytgdfeehpbccbnaadoor", sum := "b42944e0439172212ed2a3d3f0d65ce20309e614d0c4651539d27c993209607e", func := "slotcode/slotcodelaw03.OpsFinds", spec := "opsFinds", named := ["slotcode/ops.none"], apart := false, laid := [("slotcode/ops.none", laid_slotcode_ops_none)], narrowed := true }
def OpsFindsUptoSaid : Prop := opsFindsUptoRow.holds Tryd.pinned (OpenSpec.upto opsFindsSpec)

/-- 'slotcodelaw03.OpsCodes', WHERE WHAT IT READS IS OF BULK AT MOST 1048576: true; the input reads as it did. -/
def opsCodesUptoRow : OpenClaim := { program := "ytgdfeehpbccbnaadoor", sum := "b42944e0439172212ed2a3d3f0d65ce20309e614d0c4651539d27c993209607e", func := "slotcode/slotcodelaw03.OpsCodes", spec := "opsCodes", named := ["slotcode/ops.none"], apart := false, laid := [("slotcode/ops.none", laid_slotcode_ops_none)], narrowed := true }
def OpsCodesUptoSaid : Prop := opsCodesUptoRow.holds Tryd.pinned (OpenSpec.upto opsCodesSpec)

/-- 'slotcodelaw03.OpsIdentifies', WHERE WHAT IT READS IS OF BULK AT MOST 1048576: true; the input reads as it did. -/
def opsIdentifiesUptoRow : OpenClaim := { program := "ytgdfeehpbccbnaadoor", sum := "b42944e0439172212ed2a3d3f0d65ce20309e614d0c4651539d27c993209607e", func := "slotcode/slotcodelaw03.OpsIdentifies", spec := "opsIdentifies", named := ["slotcode/ops.none"], apart := false, laid := [("slotcode/ops.none", laid_slotcode_ops_none)], narrowed := true }
def OpsIdentifiesUptoSaid : Prop := opsIdentifiesUptoRow.holds Tryd.pinned (OpenSpec.upto opsIdentifiesSpec)

/-- 'slotcodelaw03.OpsFixed', WHERE WHAT IT READS IS OF BULK AT MOST 1048576: true; the input reads as it did. -/
def opsFixedUptoRow : OpenClaim := { program := "ytgdfeehpbccbnaadoor", sum := "b42944e0439172212ed2a3d3f0d65ce20309e614d0c4651539d27c993209607e", func := "slotcode/slotcodelaw03.OpsFixed", spec := "opsFixed", named := ["slotcode/ops.none"], apart := false, laid := [("slotcode/ops.none", laid_slotcode_ops_none)], narrowed := true }
def OpsFixedUptoSaid : Prop := opsFixedUptoRow.holds Tryd.pinned (OpenSpec.upto opsFixedSpec)

/-- 'slotcodelaw03.OpsInverts', WHERE WHAT IT READS IS OF BULK AT MOST 1048576: true; the input reads as it did. -/
def opsInvertsUptoRow : OpenClaim := { program := "ytgdfeehpbccbnaadoor", sum := "b42944e0439172212ed2a3d3f0d65ce20309e614d0c4651539d27c993209607e", func := "slotcode/slotcodelaw03.OpsInverts", spec := "opsInverts", named := ["slotcode/ops.none"], apart := false, laid := [("slotcode/ops.none", laid_slotcode_ops_none)], narrowed := true }
def OpsInvertsUptoSaid : Prop := opsInvertsUptoRow.holds Tryd.pinned (OpenSpec.upto opsInvertsSpec)

/-- 'slotcodelaw12.LayoutStarts', WHERE WHAT IT READS IS OF BULK AT MOST 1048576: true; the input reads as it did. -/
def layoutStartsUptoRow : OpenClaim := { program := "ytgdfeehpbccbnaadoor", sum := "b42944e0439172212ed2a3d3f0d65ce20309e614d0c4651539d27c993209607e", func := "slotcode/slotcodelaw12.LayoutStarts", spec := "layoutStarts", unfollowed := true, recurses := true, named := ["slotcode/ops.none"], apart := false, laid := [("slotcode/ops.none", laid_slotcode_ops_none)], narrowed := true }
def LayoutStartsUptoSaid : Prop := layoutStartsUptoRow.holds Tryd.pinned (OpenSpec.upto layoutStartsSpec)

/-- 'slotcodelaw12.LayoutAt', WHERE WHAT IT READS IS OF BULK AT MOST 1048576: true; the input reads as it did. -/
def layoutAtUptoRow : OpenClaim := { program := "ytgdfeehpbccbnaadoor", sum := "b42944e0439172212ed2a3d3f0d65ce20309e614d0c4651539d27c993209607e", func := "slotcode/slotcodelaw12.LayoutAt", spec := "layoutAt", unfollowed := true, recurses := true, named := ["slotcode/ops.none"], apart := false, laid := [("slotcode/ops.none", laid_slotcode_ops_none)], narrowed := true }
def LayoutAtUptoSaid : Prop := layoutAtUptoRow.holds Tryd.pinned (OpenSpec.upto layoutAtSpec)

/-- 'slotcodelaw12.LayoutDistances', WHERE WHAT IT READS IS OF BULK AT MOST 1048576: true; the input reads as it did. -/
def layoutDistancesUptoRow : OpenClaim := { program := "ytgdfeehpbccbnaadoor", sum := "b42944e0439172212ed2a3d3f0d65ce20309e614d0c4651539d27c993209607e", func := "slotcode/slotcodelaw12.LayoutDistances", spec := "layoutDistances", unfollowed := true, recurses := true, named := ["slotcode/ops.none"], apart := false, laid := [("slotcode/ops.none", laid_slotcode_ops_none)], narrowed := true }
def LayoutDistancesUptoSaid : Prop := layoutDistancesUptoRow.holds Tryd.pinned (OpenSpec.upto layoutDistancesSpec)

/-- 'slotcodelaw12.LayoutTargets', WHERE WHAT IT READS IS OF BULK AT MOST 1048576: true; the input reads as it did. -/
def layoutTargetsUptoRow : OpenClaim := { program := "ytgdfeehpbccbnaadoor", sum := "b42944e0439172212ed2a3d3f0d65ce20309e614d0c4651539d27c993209607e", func := "slotcode/slotcodelaw12.LayoutTargets", spec := "layoutTargets", unfollowed := true, recurses := true, named := ["slotcode/ops.none"], apart := false, laid := [("slotcode/ops.none", laid_slotcode_ops_none)], narrowed := true }
def LayoutTargetsUptoSaid : Prop := layoutTargetsUptoRow.holds Tryd.pinned (OpenSpec.upto layoutTargetsSpec)

/-- 'slotcodelaw12.LayoutInverts', WHERE WHAT IT READS IS OF BULK AT MOST 1048576: true; the input reads as it did. -/
def layoutInvertsUptoRow : OpenClaim := { program := "ytgdfeehpbccbnaadoor", sum := "b42944e0439172212ed2a3d3f0d65ce20309e614d0c4651539d27c993209607e", func := "slotcode/slotcodelaw12.LayoutInverts", spec := "layoutInverts", unfollowed := true, recurses := true, named := ["slotcode/ops.none"], apart := false, laid := [("slotcode/ops.none", laid_slotcode_ops_none)], narrowed := true }
def LayoutInvertsUptoSaid : Prop := layoutInvertsUptoRow.holds Tryd.pinned (OpenSpec.upto layoutInvertsSpec)

/-- 'slotcodelaw12.LayoutPrograms', WHERE WHAT IT READS IS OF BULK AT MOST 1048576: true; the input reads as it did. -/
def layoutProgramsUptoRow : OpenClaim := { program := "ytgdfeehpbccbnaadoor", sum := "b42944e0439172212ed2a3d3f0d65ce20309e614d0c4651539d27c993209607e", func := "slotcode/slotcodelaw12.LayoutPrograms", spec := "layoutPrograms", unfollowed := true, recurses := true, named := ["slotcode/ops.none"], apart := false, laid := [("slotcode/ops.none", laid_slotcode_ops_none)], narrowed := true }
def LayoutProgramsUptoSaid : Prop := layoutProgramsUptoRow.holds Tryd.pinned (OpenSpec.upto layoutProgramsSpec)

end Rows
end Go.Proofs.YtgdfeehpbccbnaaDoor
