/-
  NARROWER THAN 'FOR EVERY INPUT', by the rows' own cells (each row's printed sentence says how): InsnUses: laid · InsnChecks: laid · InsnSlots: laid · InsnEnds: laid · InsnZero: laid · InsnWrites: laid · CondHolds: laid · CondPairs: laid · CondOpposite: laid · CondMirror: laid · CondOrder: laid · CondLow: laid.
  DERIVED. THE GIVEN ROWS OF THIS SEAT. 12 by the template 'for every input the law returns true; each argument reads behind the call as it read before'; 0 by the template 'total and deterministic' (their statements: YtnllfppkfdnjpaaDoorTotals.lean).
  GIVEN WITH THE SEED: the statements are not yours to turn. If you find one false, say at which input.
  Laid BY PROGRAM, IN A SANDBOX (cutbox-rows.mjs): the forced cells as the released guide's own fill.sh prints them over the translation 18d98f4ba6f7def6… (all of the seat's roots in one cut). By AI agents, Wed Nov 11 2026. No macro, syntax, notation, axiom, sorry.
-/
import Derived.Test.YtnllfppkfdnjpaaDoorChecked
import GoSem.Claim
import GoSem.ClaimJoined
import GoSem.ClaimMapViews
import Derived.JoinedTies
import Derived.KernelRfl
namespace Go.Proofs.YtnllfppkfdnjpaaDoor
/- THE CELL 'sum', in the pinned program and in every row, IS THE sha256 OF THE DUMP (.gsa) THAT YtnllfppkfdnjpaaDoorProg.lean LOADS. Nothing in Lean hashes anything: it is a label: what it is worth is what the hold of that sum in a sandbox is worth. -/
noncomputable def Tryd.pinned : Pinned := { name := "ytnllfppkfdnjpaadoor", sum := "18d98f4ba6f7def64a5aa043d1217ea9e913e79ac86b33b7e34fa7df86255712", checked := Tryd.checked }
namespace Rows
def none {H : Type} : Left H := { results := [], args := [] }

/- WHAT THE LISTED PACKAGE-LEVEL VARIABLES READ AS WHEN THE CALL BEGINS. Each datum BY PROGRAM (the guide's laid-datum.mjs) off the statement by which the dump's own 'gosem.cut.vars' lays the variable. In a bare row this is a premise. The card (YtnllfppkfdnjpaaDoorCards.lean) ties it to the program's text. -/
def laid_slotcode_ops_none {H : Type} : DataW H := .agg [.lit (.string []), .lit (.int .i64 (-1)), .lit (.int .i64 0), .lit (.int .u8 0), .lit (.int .i64 0), .lit (.int .i64 0), .lit (.int .i64 0)]
def laid_slotcode_num_widths {H : Type} : DataW H := .agg [.lit (.int .i64 8), .lit (.int .i64 16), .lit (.int .i64 32), .lit (.int .i64 64)]

/-- 'slotcodelaw04.InsnUses': WHATEVER THE INPUT: true; the input reads as it did. -/
def insnUsesSpec : ChangeSpec := { name := "insnUses", fn := fun _ => fun
  | [d1, d2] => { results := [.lit (.bool true)], args := [d1, d2] }
  | _ => none }
def insnUsesRow : OpenClaim := { program := "ytnllfppkfdnjpaadoor", sum := "18d98f4ba6f7def64a5aa043d1217ea9e913e79ac86b33b7e34fa7df86255712", func := "slotcode/slotcodelaw04.InsnUses", spec := "insnUses", unfollowed := true, recurses := true, named := ["slotcode/ops.none", "slotcode/num.widths"], apart := false, laid := [("slotcode/ops.none", laid_slotcode_ops_none), ("slotcode/num.widths", laid_slotcode_num_widths)] }
def InsnUsesSaid : Prop := insnUsesRow.holds Tryd.pinned (OpenSpec.ofChange insnUsesSpec)

/-- ITS FALSE NEIGHBOUR: 'it returns false'. Refute it at one input. -/
def insnUsesWrong : ChangeSpec := { name := "insnUses", fn := fun _ => fun
  | [d1, d2] => { results := [.lit (.bool false)], args := [d1, d2] }
  | _ => none }
def InsnUsesWrongFalsely : Prop := insnUsesRow.holds Tryd.pinned (OpenSpec.ofChange insnUsesWrong)

/-- 'slotcodelaw04.InsnChecks': WHATEVER THE INPUT: true; the input reads as it did. -/
def insnChecksSpec : ChangeSpec := { name := "insnChecks", fn := fun _ => fun
  | [d] => { results := [.lit (.bool true)], args := [d] }
  | _ => none }
def insnChecksRow : OpenClaim := { program := "ytnllfppkfdnjpaadoor", sum := "18d98f4ba6f7def64a5aa043d1217ea9e913e79ac86b33b7e34fa7df86255712", func := "slotcode/slotcodelaw04.InsnChecks", spec := "insnChecks", unfollowed := true, recurses := true, named := ["slotcode/ops.none", "slotcode/num.widths"], apart := false, laid := [("slotcode/ops.none", laid_slotcode_ops_none), ("slotcode/num.widths", laid_slotcode_num_widths)] }
def InsnChecksSaid : Prop := insnChecksRow.holds Tryd.pinned (OpenSpec.ofChange insnChecksSpec)

/-- ITS FALSE NEIGHBOUR: 'it returns false'. Refute it at one input. -/
def insnChecksWrong : ChangeSpec := { name := "insnChecks", fn := fun _ => fun
  | [d] => { results := [.lit (.bool false)], args := [d] }
  | _ => none }
def InsnChecksWrongFalsely : Prop := insnChecksRow.holds Tryd.pinned (OpenSpec.ofChange insnChecksWrong)

/-- 'slotcodelaw04.InsnSlots': WHATEVER THE INPUT: true; the input reads as it did. -/
def insnSlotsSpec : ChangeSpec := { name := "insnSlots", fn := fun _ => fun
  | [d] => { results := [.lit (.bool true)], args := [d] }
  | _ => none }
def insnSlotsRow : OpenClaim := { program := "ytnllfppkfdnjpaadoor", sum := "18d98f4ba6f7def64a5aa043d1217ea9e913e79ac86b33b7e34fa7df86255712", func := "slotcode/slotcodelaw04.InsnSlots", spec := "insnSlots", unfollowed := true, recurses := true, named := ["slotcode/ops.none", "slotcode/num.widths"], apart := false, laid := [("slotcode/ops.none", laid_slotcode_ops_none), ("slotcode/num.widths", laid_slotcode_num_widths)] }
def InsnSlotsSaid : Prop := insnSlotsRow.holds Tryd.pinned (OpenSpec.ofChange insnSlotsSpec)

/-- ITS FALSE NEIGHBOUR: 'it returns false'. Refute it at one input. -/
def insnSlotsWrong : ChangeSpec := { name := "insnSlots", fn := fun _ => fun
  | [d] => { results := [.lit (.bool false)], args := [d] }
  | _ => none }
def InsnSlotsWrongFalsely : Prop := insnSlotsRow.holds Tryd.pinned (OpenSpec.ofChange insnSlotsWrong)

/-- 'slotcodelaw04.InsnEnds': WHATEVER THE INPUT: true; the input reads as it did. -/
def insnEndsSpec : ChangeSpec := { name := "insnEnds", fn := fun _ => fun
  | [d] => { results := [.lit (.bool true)], args := [d] }
  | _ => none }
def insnEndsRow : OpenClaim := { program := "ytnllfppkfdnjpaadoor", sum := "18d98f4ba6f7def64a5aa043d1217ea9e913e79ac86b33b7e34fa7df86255712", func := "slotcode/slotcodelaw04.InsnEnds", spec := "insnEnds", unfollowed := true, recurses := true, named := ["slotcode/ops.none", "slotcode/num.widths"], apart := false, laid := [("slotcode/ops.none", laid_slotcode_ops_none), ("slotcode/num.widths", laid_slotcode_num_widths)] }
def InsnEndsSaid : Prop := insnEndsRow.holds Tryd.pinned (OpenSpec.ofChange insnEndsSpec)

/-- ITS FALSE NEIGHBOUR: 'it returns false'. Refute it at one input. -/
def insnEndsWrong : ChangeSpec := { name := "insnEnds", fn := fun _ => fun
  | [d] => { results := [.lit (.bool false)], args := [d] }
  | _ => none }
def InsnEndsWrongFalsely : Prop := insnEndsRow.holds Tryd.pinned (OpenSpec.ofChange insnEndsWrong)

/-- 'slotcodelaw04.InsnZero': WHATEVER THE INPUT: true; the input reads as it did. -/
def insnZeroSpec : ChangeSpec := { name := "insnZero", fn := fun _ => fun
  | [d1, d2] => { results := [.lit (.bool true)], args := [d1, d2] }
  | _ => none }
def insnZeroRow : OpenClaim := { program := "ytnllfppkfdnjpaadoor", sum := "18d98f4ba6f7def64a5aa043d1217ea9e913e79ac86b33b7e34fa7df86255712", func := "slotcode/slotcodelaw04.InsnZero", spec := "insnZero", unfollowed := true, recurses := true, named := ["slotcode/ops.none", "slotcode/num.widths"], apart := false, laid := [("slotcode/ops.none", laid_slotcode_ops_none), ("slotcode/num.widths", laid_slotcode_num_widths)] }
def InsnZeroSaid : Prop := insnZeroRow.holds Tryd.pinned (OpenSpec.ofChange insnZeroSpec)

/-- ITS FALSE NEIGHBOUR: 'it returns false'. Refute it at one input. -/
def insnZeroWrong : ChangeSpec := { name := "insnZero", fn := fun _ => fun
  | [d1, d2] => { results := [.lit (.bool false)], args := [d1, d2] }
  | _ => none }
def InsnZeroWrongFalsely : Prop := insnZeroRow.holds Tryd.pinned (OpenSpec.ofChange insnZeroWrong)

/-- 'slotcodelaw04.InsnWrites': WHATEVER THE INPUT: true; the input reads as it did. -/
def insnWritesSpec : ChangeSpec := { name := "insnWrites", fn := fun _ => fun
  | [d] => { results := [.lit (.bool true)], args := [d] }
  | _ => none }
def insnWritesRow : OpenClaim := { program := "ytnllfppkfdnjpaadoor", sum := "18d98f4ba6f7def64a5aa043d1217ea9e913e79ac86b33b7e34fa7df86255712", func := "slotcode/slotcodelaw04.InsnWrites", spec := "insnWrites", unfollowed := true, recurses := true, named := ["slotcode/ops.none", "slotcode/num.widths"], apart := false, laid := [("slotcode/ops.none", laid_slotcode_ops_none), ("slotcode/num.widths", laid_slotcode_num_widths)] }
def InsnWritesSaid : Prop := insnWritesRow.holds Tryd.pinned (OpenSpec.ofChange insnWritesSpec)

/-- ITS FALSE NEIGHBOUR: 'it returns false'. Refute it at one input. -/
def insnWritesWrong : ChangeSpec := { name := "insnWrites", fn := fun _ => fun
  | [d] => { results := [.lit (.bool false)], args := [d] }
  | _ => none }
def InsnWritesWrongFalsely : Prop := insnWritesRow.holds Tryd.pinned (OpenSpec.ofChange insnWritesWrong)

/-- 'slotcodelaw07.CondHolds': WHATEVER THE INPUT: true; the input reads as it did. -/
def condHoldsSpec : ChangeSpec := { name := "condHolds", fn := fun _ => fun
  | [d] => { results := [.lit (.bool true)], args := [d] }
  | _ => none }
def condHoldsRow : OpenClaim := { program := "ytnllfppkfdnjpaadoor", sum := "18d98f4ba6f7def64a5aa043d1217ea9e913e79ac86b33b7e34fa7df86255712", func := "slotcode/slotcodelaw07.CondHolds", spec := "condHolds", named := ["slotcode/ops.none", "slotcode/num.widths"], apart := false, laid := [("slotcode/ops.none", laid_slotcode_ops_none), ("slotcode/num.widths", laid_slotcode_num_widths)] }
def CondHoldsSaid : Prop := condHoldsRow.holds Tryd.pinned (OpenSpec.ofChange condHoldsSpec)

/-- ITS FALSE NEIGHBOUR: 'it returns false'. Refute it at one input. -/
def condHoldsWrong : ChangeSpec := { name := "condHolds", fn := fun _ => fun
  | [d] => { results := [.lit (.bool false)], args := [d] }
  | _ => none }
def CondHoldsWrongFalsely : Prop := condHoldsRow.holds Tryd.pinned (OpenSpec.ofChange condHoldsWrong)

/-- 'slotcodelaw07.CondPairs': WHATEVER THE INPUT: true; the input reads as it did. -/
def condPairsSpec : ChangeSpec := { name := "condPairs", fn := fun _ => fun
  | [d] => { results := [.lit (.bool true)], args := [d] }
  | _ => none }
def condPairsRow : OpenClaim := { program := "ytnllfppkfdnjpaadoor", sum := "18d98f4ba6f7def64a5aa043d1217ea9e913e79ac86b33b7e34fa7df86255712", func := "slotcode/slotcodelaw07.CondPairs", spec := "condPairs", named := ["slotcode/ops.none", "slotcode/num.widths"], apart := false, laid := [("slotcode/ops.none", laid_slotcode_ops_none), ("slotcode/num.widths", laid_slotcode_num_widths)] }
def CondPairsSaid : Prop := condPairsRow.holds Tryd.pinned (OpenSpec.ofChange condPairsSpec)

/-- ITS FALSE NEIGHBOUR: 'it returns false'. Refute it at one input. -/
def condPairsWrong : ChangeSpec := { name := "condPairs", fn := fun _ => fun
  | [d] => { results := [.lit (.bool false)], args := [d] }
  | _ => none }
def CondPairsWrongFalsely : Prop := condPairsRow.holds Tryd.pinned (OpenSpec.ofChange condPairsWrong)

/-- 'slotcodelaw07.CondOpposite': WHATEVER THE INPUT: true; the input reads as it did. -/
def condOppositeSpec : ChangeSpec := { name := "condOpposite", fn := fun _ => fun
  | [d] => { results := [.lit (.bool true)], args := [d] }
  | _ => none }
def condOppositeRow : OpenClaim := { program := "ytnllfppkfdnjpaadoor", sum := "18d98f4ba6f7def64a5aa043d1217ea9e913e79ac86b33b7e34fa7df86255712", func := "slotcode/slotcodelaw07.CondOpposite", spec := "condOpposite", named := ["slotcode/ops.none", "slotcode/num.widths"], apart := false, laid := [("slotcode/ops.none", laid_slotcode_ops_none), ("slotcode/num.widths", laid_slotcode_num_widths)] }
def CondOppositeSaid : Prop := condOppositeRow.holds Tryd.pinned (OpenSpec.ofChange condOppositeSpec)

/-- ITS FALSE NEIGHBOUR: 'it returns false'. Refute it at one input. -/
def condOppositeWrong : ChangeSpec := { name := "condOpposite", fn := fun _ => fun
  | [d] => { results := [.lit (.bool false)], args := [d] }
  | _ => none }
def CondOppositeWrongFalsely : Prop := condOppositeRow.holds Tryd.pinned (OpenSpec.ofChange condOppositeWrong)

/-- 'slotcodelaw07.CondMirror': WHATEVER THE INPUT: true; the input reads as it did. -/
def condMirrorSpec : ChangeSpec := { name := "condMirror", fn := fun _ => fun
  | [d] => { results := [.lit (.bool true)], args := [d] }
  | _ => none }
def condMirrorRow : OpenClaim := { program := "ytnllfppkfdnjpaadoor", sum := "18d98f4ba6f7def64a5aa043d1217ea9e913e79ac86b33b7e34fa7df86255712", func := "slotcode/slotcodelaw07.CondMirror", spec := "condMirror", named := ["slotcode/ops.none", "slotcode/num.widths"], apart := false, laid := [("slotcode/ops.none", laid_slotcode_ops_none), ("slotcode/num.widths", laid_slotcode_num_widths)] }
def CondMirrorSaid : Prop := condMirrorRow.holds Tryd.pinned (OpenSpec.ofChange condMirrorSpec)

/-- ITS FALSE NEIGHBOUR: 'it returns false'. Refute it at one input. -/
def condMirrorWrong : ChangeSpec := { name := "condMirror", fn := fun _ => fun
  | [d] => { results := [.lit (.bool false)], args := [d] }
  | _ => none }
def CondMirrorWrongFalsely : Prop := condMirrorRow.holds Tryd.pinned (OpenSpec.ofChange condMirrorWrong)

/-- 'slotcodelaw07.CondOrder': WHATEVER THE INPUT: true; the input reads as it did. -/
def condOrderSpec : ChangeSpec := { name := "condOrder", fn := fun _ => fun
  | [d1, d2, d3] => { results := [.lit (.bool true)], args := [d1, d2, d3] }
  | _ => none }
def condOrderRow : OpenClaim := { program := "ytnllfppkfdnjpaadoor", sum := "18d98f4ba6f7def64a5aa043d1217ea9e913e79ac86b33b7e34fa7df86255712", func := "slotcode/slotcodelaw07.CondOrder", spec := "condOrder", named := ["slotcode/ops.none", "slotcode/num.widths"], apart := false, laid := [("slotcode/ops.none", laid_slotcode_ops_none), ("slotcode/num.widths", laid_slotcode_num_widths)] }
def CondOrderSaid : Prop := condOrderRow.holds Tryd.pinned (OpenSpec.ofChange condOrderSpec)

/-- ITS FALSE NEIGHBOUR: 'it returns false'. Refute it at one input. -/
def condOrderWrong : ChangeSpec := { name := "condOrder", fn := fun _ => fun
  | [d1, d2, d3] => { results := [.lit (.bool false)], args := [d1, d2, d3] }
  | _ => none }
def CondOrderWrongFalsely : Prop := condOrderRow.holds Tryd.pinned (OpenSpec.ofChange condOrderWrong)

/-- 'slotcodelaw07.CondLow': WHATEVER THE INPUT: true; the input reads as it did. -/
def condLowSpec : ChangeSpec := { name := "condLow", fn := fun _ => fun
  | [d1, d2, d3] => { results := [.lit (.bool true)], args := [d1, d2, d3] }
  | _ => none }
def condLowRow : OpenClaim := { program := "ytnllfppkfdnjpaadoor", sum := "18d98f4ba6f7def64a5aa043d1217ea9e913e79ac86b33b7e34fa7df86255712", func := "slotcode/slotcodelaw07.CondLow", spec := "condLow", named := ["slotcode/ops.none", "slotcode/num.widths"], apart := false, laid := [("slotcode/ops.none", laid_slotcode_ops_none), ("slotcode/num.widths", laid_slotcode_num_widths)] }
def CondLowSaid : Prop := condLowRow.holds Tryd.pinned (OpenSpec.ofChange condLowSpec)

/-- ITS FALSE NEIGHBOUR: 'it returns false'. Refute it at one input. -/
def condLowWrong : ChangeSpec := { name := "condLow", fn := fun _ => fun
  | [d1, d2, d3] => { results := [.lit (.bool false)], args := [d1, d2, d3] }
  | _ => none }
def CondLowWrongFalsely : Prop := condLowRow.holds Tryd.pinned (OpenSpec.ofChange condLowWrong)

/- THE SECOND FORM. 'bulk': how many values and letters a reading holds, each counted each time it is reached (what is shared counts as often as it is met; a slice's spare places count too). A statement '..UptoSaid' is the law's where the arguments, and the package variables that the reading takes, are together of bulk at most 1048576: NARROWER than '..Said'. Prove '..Said' where nothing that the law and all that it calls make is longer than what came in: it says more and counts as full. Else prove '..UptoSaid'. A law counts once. -/
mutual
def uptoBulk {H : Type} : DataW H → Nat
  | .lit (.string bytes) => bytes.length + 1
  | .lit _ => 1
  | .nil => 1
  | .ptr d => uptoBulk d + 1
  | .slice elems spare => uptoBulkAll elems + uptoBulkAll spare + 1
  | .agg parts => uptoBulkAll parts + 1
  | .iface _ d => uptoBulk d + 1
  | .map entries => uptoBulkEntries entries + 1
  | .held _ => 1
def uptoBulkAll {H : Type} : List (DataW H) → Nat
  | [] => 0
  | d :: r => uptoBulk d + uptoBulkAll r
def uptoBulkEntries {H : Type} : List (Lit × DataW H) → Nat
  | [] => 0
  | x :: r => uptoBulkEntry x + uptoBulkEntries r
def uptoBulkEntry {H : Type} : Lit × DataW H → Nat
  | (.string bytes, d) => bytes.length + uptoBulk d + 1
  | (_, d) => uptoBulk d + 1
 end
def uptoSmall : (H : Type) → List (DataW H) → Bool := fun _ ds => decide (uptoBulkAll ds ≤ 1048576)
def OpenSpec.upto (s : _root_.Go.ChangeSpec) : _root_.Go.OpenSpec := { _root_.Go.OpenSpec.ofChange s with cond := some uptoSmall }

/-- 'slotcodelaw04.InsnUses', WHERE WHAT IT READS IS OF BULK AT MOST 1048576: true; the input reads as it did. -/
def insnUsesUptoRow : OpenClaim := { program := "ytnllfppkfdnjpaadoor", sum := "18d98f4ba6f7def64a5aa043d1217ea9e913e79ac86b33b7e34fa7df86255712", func := "slotcode/slotcodelaw04.InsnUses", spec := "insnUses", unfollowed := true, recurses := true, named := ["slotcode/ops.none", "slotcode/num.widths"], apart := false, laid := [("slotcode/ops.none", laid_slotcode_ops_none), ("slotcode/num.widths", laid_slotcode_num_widths)], narrowed := true }
def InsnUsesUptoSaid : Prop := insnUsesUptoRow.holds Tryd.pinned (OpenSpec.upto insnUsesSpec)

/-- 'slotcodelaw04.InsnChecks', WHERE WHAT IT READS IS OF BULK AT MOST 1048576: true; the input reads as it did. -/
def insnChecksUptoRow : OpenClaim := { program := "ytnllfppkfdnjpaadoor", sum := "18d98f4ba6f7def64a5aa043d1217ea9e913e79ac86b33b7e34fa7df86255712", func := "slotcode/slotcodelaw04.InsnChecks", spec := "insnChecks", unfollowed := true, recurses := true, named := ["slotcode/ops.none", "slotcode/num.widths"], apart := false, laid := [("slotcode/ops.none", laid_slotcode_ops_none), ("slotcode/num.widths", laid_slotcode_num_widths)], narrowed := true }
def InsnChecksUptoSaid : Prop := insnChecksUptoRow.holds Tryd.pinned (OpenSpec.upto insnChecksSpec)

/-- 'slotcodelaw04.InsnSlots', WHERE WHAT IT READS IS OF BULK AT MOST 1048576: true; the input reads as it did. -/
def insnSlotsUptoRow : OpenClaim := { program := "ytnllfppkfdnjpaadoor", sum := "18d98f4ba6f7def64a5aa043d1217ea9e913e79ac86b33b7e34fa7df86255712", func := "slotcode/slotcodelaw04.InsnSlots", spec := "insnSlots", unfollowed := true, recurses := true, named := ["slotcode/ops.none", "slotcode/num.widths"], apart := false, laid := [("slotcode/ops.none", laid_slotcode_ops_none), ("slotcode/num.widths", laid_slotcode_num_widths)], narrowed := true }
def InsnSlotsUptoSaid : Prop := insnSlotsUptoRow.holds Tryd.pinned (OpenSpec.upto insnSlotsSpec)

/-- 'slotcodelaw04.InsnEnds', WHERE WHAT IT READS IS OF BULK AT MOST 1048576: true; the input reads as it did. -/
def insnEndsUptoRow : OpenClaim := { program := "ytnllfppkfdnjpaadoor", sum := "18d98f4ba6f7def64a5aa043d1217ea9e913e79ac86b33b7e34fa7df86255712", func := "slotcode/slotcodelaw04.InsnEnds", spec := "insnEnds", unfollowed := true, recurses := true, named := ["slotcode/ops.none", "slotcode/num.widths"], apart := false, laid := [("slotcode/ops.none", laid_slotcode_ops_none), ("slotcode/num.widths", laid_slotcode_num_widths)], narrowed := true }
def InsnEndsUptoSaid : Prop := insnEndsUptoRow.holds Tryd.pinned (OpenSpec.upto insnEndsSpec)

/-- 'slotcodelaw04.InsnZero', WHERE WHAT IT READS IS OF BULK AT MOST 1048576: true; the input reads as it did. -/
def insnZeroUptoRow : OpenClaim := { program := "ytnllfppkfdnjpaadoor", sum := "18d98f4ba6f7def64a5aa043d1217ea9e913e79ac86b33b7e34fa7df86255712", func := "slotcode/slotcodelaw04.InsnZero", spec := "insnZero", unfollowed := true, recurses := true, named := ["slotcode/ops.none", "slotcode/num.widths"], apart := false, laid := [("slotcode/ops.none", laid_slotcode_ops_none), ("slotcode/num.widths", laid_slotcode_num_widths)], narrowed := true }
def InsnZeroUptoSaid : Prop := insnZeroUptoRow.holds Tryd.pinned (OpenSpec.upto insnZeroSpec)

/-- 'slotcodelaw04.InsnWrites', WHERE WHAT IT READS IS OF BULK AT MOST 1048576: true; the input reads as it did. -/
def insnWritesUptoRow : OpenClaim := { program := "ytnllfppkfdnjpaadoor", sum := "18d98f4ba6f7def64a5aa043d1217ea9e913e79ac86b33b7e34fa7df86255712", func := "slotcode/slotcodelaw04.InsnWrites", spec := "insnWrites", unfollowed := true, recurses := true, named := ["slotcode/ops.none", "slotcode/num.widths"], apart := false, laid := [("slotcode/ops.none", laid_slotcode_ops_none), ("slotcode/num.widths", laid_slotcode_num_widths)], narrowed := true }
def InsnWritesUptoSaid : Prop := insnWritesUptoRow.holds Tryd.pinned (OpenSpec.upto insnWritesSpec)

/-- 'slotcodelaw07.CondHolds', WHERE WHAT IT READS IS OF BULK AT MOST 1048576: true; the input reads as it did. -/
def condHoldsUptoRow : OpenClaim := { program := "ytnllfppkfdnjpaadoor", sum := "18d98f4ba6f7def64a5aa043d1217ea9e913e79ac86b33b7e34fa7df86255712", func := "slotcode/slotcodelaw07.CondHolds", spec := "condHolds", named := ["slotcode/ops.none", "slotcode/num.widths"], apart := false, laid := [("slotcode/ops.none", laid_slotcode_ops_none), ("slotcode/num.widths", laid_slotcode_num_widths)], narrowed := true }
def CondHoldsUptoSaid : Prop := condHoldsUptoRow.holds Tryd.pinned (OpenSpec.upto condHoldsSpec)

/-- 'slotcodelaw07.CondPairs', WHERE WHAT IT READS IS OF BULK AT MOST 1048576: true; the input reads as it did. -/
def condPairsUptoRow : OpenClaim := { program := "ytnllfppkfdnjpaadoor", sum := "18d98f4ba6f7def64a5aa043d1217ea9e913e79ac86b33b7e34fa7df86255712", func := "slotcode/slotcodelaw07.CondPairs", spec := "condPairs", named := ["slotcode/ops.none", "slotcode/num.widths"], apart := false, laid := [("slotcode/ops.none", laid_slotcode_ops_none), ("slotcode/num.widths", laid_slotcode_num_widths)], narrowed := true }
def CondPairsUptoSaid : Prop := condPairsUptoRow.holds Tryd.pinned (OpenSpec.upto condPairsSpec)

/-- 'slotcodelaw07.CondOpposite', WHERE WHAT IT READS IS OF BULK AT MOST 1048576: true; the input reads as it did. -/
def condOppositeUptoRow : OpenClaim := { program := "ytnllfppkfdnjpaadoor", sum := "18d98f4ba6f7def64a5aa043d1217ea9e913e79ac86b33b7e34fa7df86255712", func := "slotcode/slotcodelaw07.CondOpposite", spec := "condOpposite", named := ["slotcode/ops.none", "slotcode/num.widths"], apart := false, laid := [("slotcode/ops.none", laid_slotcode_ops_none), ("slotcode/num.widths", laid_slotcode_num_widths)], narrowed := true }
def CondOppositeUptoSaid : Prop := condOppositeUptoRow.holds Tryd.pinned (OpenSpec.upto condOppositeSpec)

/-- 'slotcodelaw07.CondMirror', WHERE WHAT IT READS IS OF BULK AT MOST 1048576: true; the input reads as it did. -/
def condMirrorUptoRow : OpenClaim := { program := "ytnllfppkfdnjpaadoor", sum := "18d98f4ba6f7def64a5aa043d1217ea9e913e79ac86b33b7e34fa7df86255712", func := "slotcode/slotcodelaw07.CondMirror", spec := "condMirror", named := ["slotcode/ops.none", "slotcode/num.widths"], apart := false, laid := [("slotcode/ops.none", laid_slotcode_ops_none), ("slotcode/num.widths", laid_slotcode_num_widths)], narrowed := true }
def CondMirrorUptoSaid : Prop := condMirrorUptoRow.holds Tryd.pinned (OpenSpec.upto condMirrorSpec)

/-- 'slotcodelaw07.CondOrder', WHERE WHAT IT READS IS OF BULK AT MOST 1048576: true; the input reads as it did. -/
def condOrderUptoRow : OpenClaim := { program := "ytnllfppkfdnjpaadoor", sum := "18d98f4ba6f7def64a5aa043d1217ea9e913e79ac86b33b7e34fa7df86255712", func := "slotcode/slotcodelaw07.CondOrder", spec := "condOrder", named := ["slotcode/ops.none", "slotcode/num.widths"], apart := false, laid := [("slotcode/ops.none", laid_slotcode_ops_none), ("slotcode/num.widths", laid_slotcode_num_widths)], narrowed := true }
def CondOrderUptoSaid : Prop := condOrderUptoRow.holds Tryd.pinned (OpenSpec.upto condOrderSpec)

/-- 'slotcodelaw07.CondLow', WHERE WHAT IT READS IS OF BULK AT MOST 1048576: true; the input reads as it did. -/
def condLowUptoRow : OpenClaim := { program := "ytnllfppkfdnjpaadoor", sum := "18d98f4ba6f7def64a5aa043d1217ea9e913e79ac86b33b7e34fa7df86255712", func := "slotcode/slotcodelaw07.CondLow", spec := "condLow", named := ["slotcode/ops.none", "slotcode/num.widths"], apart := false, laid := [("slotcode/ops.none", laid_slotcode_ops_none), ("slotcode/num.widths", laid_slotcode_num_widths)], narrowed := true }
def CondLowUptoSaid : Prop := condLowUptoRow.holds Tryd.pinned (OpenSpec.upto condLowSpec)

end Rows
end Go.Proofs.YtnllfppkfdnjpaaDoor
