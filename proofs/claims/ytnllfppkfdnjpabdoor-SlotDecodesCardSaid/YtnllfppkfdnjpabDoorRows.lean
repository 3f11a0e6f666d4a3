/-
  NARROWER THAN 'FOR EVERY INPUT', by the rows' own cells (each row's printed sentence says how): AluDoes: laid · AluOperands: laid · AluSwaps: laid · AluDivides: laid · AluLow: laid · AluInverse: laid · SlotEncodes: laid · SlotDecodes: laid · SlotInverts: laid · SlotIsCanonical: laid · SlotAll: laid · SlotJoins: laid.
  DERIVED. THE GIVEN ROWS OF THIS SEAT. 12 by the template 'for every input the law returns true; each argument reads behind the call as it read before'; 0 by the template 'total and deterministic' (their statements: YtnllfppkfdnjpabDoorTotals.lean).
  GIVEN WITH THE SEED: the statements are not yours to turn. If you find one false, say at which input.
  Laid BY PROGRAM, IN A SANDBOX (cutbox-rows.mjs): the forced cells as the released guide's own fill.sh prints them over the translation 08b6737f4ee574d3… (all of the seat's roots in one cut). By AI agents, Wed Nov 11 2026. No macro, syntax, notation, axiom, sorry.
-/
import Derived.Test.YtnllfppkfdnjpabDoorChecked
import GoSem.Claim
import GoSem.ClaimJoined
import GoSem.ClaimMapViews
import Derived.JoinedTies
import Derived.KernelRfl
namespace Go.Proofs.YtnllfppkfdnjpabDoor
/- THE CELL 'sum', in the pinned program and in every row, IS THE sha256 OF THE DUMP (.gsa) THAT YtnllfppkfdnjpabDoorProg.lean LOADS. Nothing in Lean hashes anything: it is a label: what it is worth is what the hold of that sum in a sandbox is worth. -/
noncomputable def Tryd.pinned : Pinned := { name := "ytnllfppkfdnjpabdoor", sum := "08b6737f4ee574d36c2ea56a599bc223955e784a77375a54829b2855facff715", checked := Tryd.checked }
namespace Rows
def none {H : Type} : Left H := { results := [], args := [] }

/- WHAT THE LISTED PACKAGE-LEVEL VARIABLES READ AS WHEN THE CALL BEGINS. Each datum BY PROGRAM (the guide's laid-datum.mjs) off the statement by which the dump's own 'gosem.cut.vars' lays the variable. In a bare row this is a premise. The card (YtnllfppkfdnjpabDoorCards.lean) ties it to the program's text. -/
def laid_slotcode_ops_none {H : Type} : DataW H := .agg [.lit (.string []), .lit (.int .i64 (-1)), .lit (.int .i64 0), .lit (.int .u8 0), .lit (.int .i64 0), .lit (.int .i64 0), .lit (.int .i64 0)]
def laid_slotcode_num_widths {H : Type} : DataW H := .agg [.lit (.int .i64 8), .lit (.int .i64 16), .lit (.int .i64 32), .lit (.int .i64 64)]

/-- 'slotcodelaw06.AluDoes': WHATEVER THE INPUT: true; the input reads as it did. -/
def aluDoesSpec : ChangeSpec := { name := "aluDoes", fn := fun _ => fun
  | [d] => { results := [.lit (.bool true)], args := [d] }
  | _ => none }
def aluDoesRow : OpenClaim := { program := "ytnllfppkfdnjpabdoor", sum := "08b6737f4ee574d36c2ea56a599bc223955e784a77375a54829b2855facff715", func := "slotcode/slotcodelaw06.AluDoes", spec := "aluDoes", unfollowed := true, recurses := true, named := ["slotcode/ops.none", "slotcode/num.widths"], apart := false, laid := [("slotcode/ops.none", laid_slotcode_ops_none), ("slotcode/num.widths", laid_slotcode_num_widths)] }
def AluDoesSaid : Prop := aluDoesRow.holds Tryd.pinned (OpenSpec.ofChange aluDoesSpec)

/-- ITS FALSE NEIGHBOUR: 'it returns false'. Refute it at one input. -/
def aluDoesWrong : ChangeSpec := { name := "aluDoes", fn := fun _ => fun
  | [d] => { results := [.lit (.bool false)], args := [d] }
  | _ => none }
def AluDoesWrongFalsely : Prop := aluDoesRow.holds Tryd.pinned (OpenSpec.ofChange aluDoesWrong)

/-- 'slotcodelaw06.AluOperands': WHATEVER THE INPUT: true; the input reads as it did. -/
def aluOperandsSpec : ChangeSpec := { name := "aluOperands", fn := fun _ => fun
  | [d1, d2] => { results := [.lit (.bool true)], args := [d1, d2] }
  | _ => none }
def aluOperandsRow : OpenClaim := { program := "ytnllfppkfdnjpabdoor", sum := "08b6737f4ee574d36c2ea56a599bc223955e784a77375a54829b2855facff715", func := "slotcode/slotcodelaw06.AluOperands", spec := "aluOperands", unfollowed := true, recurses := true, named := ["slotcode/ops.none", "slotcode/num.widths"], apart := false, laid := [("slotcode/ops.none", laid_slotcode_ops_none), ("slotcode/num.widths", laid_slotcode_num_widths)] }
def AluOperandsSaid : Prop := aluOperandsRow.holds Tryd.pinned (OpenSpec.ofChange aluOperandsSpec)

/-- ITS FALSE NEIGHBOUR: 'it returns false'. Refute it at one input. -/
def aluOperandsWrong : ChangeSpec := { name := "aluOperands", fn := fun _ => fun
  | [d1, d2] => { results := [.lit (.bool false)], args := [d1, d2] }
  | _ => none }
def AluOperandsWrongFalsely : Prop := aluOperandsRow.holds Tryd.pinned (OpenSpec.ofChange aluOperandsWrong)

/-- 'slotcodelaw06.AluSwaps': WHATEVER THE INPUT: true; the input reads as it did. -/
def aluSwapsSpec : ChangeSpec := { name := "aluSwaps", fn := fun _ => fun
  | [d1, d2] => { results := [.lit (.bool true)], args := [d1, d2] }
  | _ => none }
def aluSwapsRow : OpenClaim := { program := "ytnllfppkfdnjpabdoor", sum := "08b6737f4ee574d36c2ea56a599bc223955e784a77375a54829b2855facff715", func := "slotcode/slotcodelaw06.AluSwaps", spec := "aluSwaps", unfollowed := true, recurses := true, named := ["slotcode/ops.none", "slotcode/num.widths"], apart := false, laid := [("slotcode/ops.none", laid_slotcode_ops_none), ("slotcode/num.widths", laid_slotcode_num_widths)] }
def AluSwapsSaid : Prop := aluSwapsRow.holds Tryd.pinned (OpenSpec.ofChange aluSwapsSpec)

/-- ITS FALSE NEIGHBOUR: 'it returns false'. Refute it at one input. -/
def aluSwapsWrong : ChangeSpec := { name := "aluSwaps", fn := fun _ => fun
  | [d1, d2] => { results := [.lit (.bool false)], args := [d1, d2] }
  | _ => none }
def AluSwapsWrongFalsely : Prop := aluSwapsRow.holds Tryd.pinned (OpenSpec.ofChange aluSwapsWrong)

/-- 'slotcodelaw06.AluDivides': WHATEVER THE INPUT: true; the input reads as it did. -/
def aluDividesSpec : ChangeSpec := { name := "aluDivides", fn := fun _ => fun
  | [d1, d2] => { results := [.lit (.bool true)], args := [d1, d2] }
  | _ => none }
def aluDividesRow : OpenClaim := { program := "ytnllfppkfdnjpabdoor", sum := "08b6737f4ee574d36c2ea56a599bc223955e784a77375a54829b2855facff715", func := "slotcode/slotcodelaw06.AluDivides", spec := "aluDivides", unfollowed := true, recurses := true, named := ["slotcode/ops.none", "slotcode/num.widths"], apart := false, laid := [("slotcode/ops.none", laid_slotcode_ops_none), ("slotcode/num.widths", laid_slotcode_num_widths)] }
def AluDividesSaid : Prop := aluDividesRow.holds Tryd.pinned (OpenSpec.ofChange aluDividesSpec)

/-- ITS FALSE NEIGHBOUR: 'it returns false'. Refute it at one input. -/
def aluDividesWrong : ChangeSpec := { name := "aluDivides", fn := fun _ => fun
  | [d1, d2] => { results := [.lit (.bool false)], args := [d1, d2] }
  | _ => none }
def AluDividesWrongFalsely : Prop := aluDividesRow.holds Tryd.pinned (OpenSpec.ofChange aluDividesWrong)

/-- 'slotcodelaw06.AluLow': WHATEVER THE INPUT: true; the input reads as it did. -/
def aluLowSpec : ChangeSpec := { name := "aluLow", fn := fun _ => fun
  | [d1, d2, d3] => { results := [.lit (.bool true)], args := [d1, d2, d3] }
  | _ => none }
def aluLowRow : OpenClaim := { program := "ytnllfppkfdnjpabdoor", sum := "08b6737f4ee574d36c2ea56a599bc223955e784a77375a54829b2855facff715", func := "slotcode/slotcodelaw06.AluLow", spec := "aluLow", unfollowed := true, recurses := true, named := ["slotcode/ops.none", "slotcode/num.widths"], apart := false, laid := [("slotcode/ops.none", laid_slotcode_ops_none), ("slotcode/num.widths", laid_slotcode_num_widths)] }
def AluLowSaid : Prop := aluLowRow.holds Tryd.pinned (OpenSpec.ofChange aluLowSpec)

/-- ITS FALSE NEIGHBOUR: 'it returns false'. Refute it at one input. -/
def aluLowWrong : ChangeSpec := { name := "aluLow", fn := fun _ => fun
  | [d1, d2, d3] => { results := [.lit (.bool false)], args := [d1, d2, d3] }
  | _ => none }
def AluLowWrongFalsely : Prop := aluLowRow.holds Tryd.pinned (OpenSpec.ofChange aluLowWrong)

/-- 'slotcodelaw06.AluInverse': WHATEVER THE INPUT: true; the input reads as it did. -/
def aluInverseSpec : ChangeSpec := { name := "aluInverse", fn := fun _ => fun
  | [d1, d2] => { results := [.lit (.bool true)], args := [d1, d2] }
  | _ => none }
def aluInverseRow : OpenClaim := { program := "ytnllfppkfdnjpabdoor", sum := "08b6737f4ee574d36c2ea56a599bc223955e784a77375a54829b2855facff715", func := "slotcode/slotcodelaw06.AluInverse", spec := "aluInverse", unfollowed := true, recurses := true, named := ["slotcode/ops.none", "slotcode/num.widths"], apart := false, laid := [("slotcode/ops.none", laid_slotcode_ops_none), ("slotcode/num.widths", laid_slotcode_num_widths)] }
def AluInverseSaid : Prop := aluInverseRow.holds Tryd.pinned (OpenSpec.ofChange aluInverseSpec)

/-- ITS FALSE NEIGHBOUR: 'it returns false'. Refute it at one input. -/
def aluInverseWrong : ChangeSpec := { name := "aluInverse", fn := fun _ => fun
  | [d1, d2] => { results := [.lit (.bool false)], args := [d1, d2] }
  | _ => none }
def AluInverseWrongFalsely : Prop := aluInverseRow.holds Tryd.pinned (OpenSpec.ofChange aluInverseWrong)

/-- 'slotcodelaw05.SlotEncodes': WHATEVER THE INPUT: true; the input reads as it did. -/
def slotEncodesSpec : ChangeSpec := { name := "slotEncodes", fn := fun _ => fun
  | [d] => { results := [.lit (.bool true)], args := [d] }
  | _ => none }
def slotEncodesRow : OpenClaim := { program := "ytnllfppkfdnjpabdoor", sum := "08b6737f4ee574d36c2ea56a599bc223955e784a77375a54829b2855facff715", func := "slotcode/slotcodelaw05.SlotEncodes", spec := "slotEncodes", unfollowed := true, recurses := true, named := ["slotcode/ops.none", "slotcode/num.widths"], apart := false, laid := [("slotcode/ops.none", laid_slotcode_ops_none), ("slotcode/num.widths", laid_slotcode_num_widths)] }
def SlotEncodesSaid : Prop := slotEncodesRow.holds Tryd.pinned (OpenSpec.ofChange slotEncodesSpec)

/-- ITS FALSE NEIGHBOUR: 'it returns false'. Refute it at one input. -/
def slotEncodesWrong : ChangeSpec := { name := "slotEncodes", fn := fun _ => fun
  | [d] => { results := [.lit (.bool false)], args := [d] }
  | _ => none }
def SlotEncodesWrongFalsely : Prop := slotEncodesRow.holds Tryd.pinned (OpenSpec.ofChange slotEncodesWrong)

/-- 'slotcodelaw05.SlotDecodes': WHATEVER THE INPUT: true; the input reads as it did. -/
def slotDecodesSpec : ChangeSpec := { name := "slotDecodes", fn := fun _ => fun
  | [d] => { results := [.lit (.bool true)], args := [d] }
  | _ => none }
def slotDecodesRow : OpenClaim := { program := "ytnllfppkfdnjpabdoor", sum := "08b6737f4ee574d36c2ea56a599bc223955e784a77375a54829b2855facff715", func := "slotcode/slotcodelaw05.SlotDecodes", spec := "slotDecodes", unfollowed := true, recurses := true, named := ["slotcode/num.widths", "slotcode/ops.none"], apart := false, laid := [("slotcode/ops.none", laid_slotcode_ops_none), ("slotcode/num.widths", laid_slotcode_num_widths)] }
def SlotDecodesSaid : Prop := slotDecodesRow.holds Tryd.pinned (OpenSpec.ofChange slotDecodesSpec)

/-- ITS FALSE NEIGHBOUR: 'it returns false'. Refute it at one input. -/
def slotDecodesWrong : ChangeSpec := { name := "slotDecodes", fn := fun _ => fun
  | [d] => { results := [.lit (.bool false)], args := [d] }
  | _ => none }
def SlotDecodesWrongFalsely : Prop := slotDecodesRow.holds Tryd.pinned (OpenSpec.ofChange slotDecodesWrong)

/-- 'slotcodelaw05.SlotInverts': WHATEVER THE INPUT: true; the input reads as it did. -/
def slotInvertsSpec : ChangeSpec := { name := "slotInverts", fn := fun _ => fun
  | [d1, d2] => { results := [.lit (.bool true)], args := [d1, d2] }
  | _ => none }
def slotInvertsRow : OpenClaim := { program := "ytnllfppkfdnjpabdoor", sum := "08b6737f4ee574d36c2ea56a599bc223955e784a77375a54829b2855facff715", func := "slotcode/slotcodelaw05.SlotInverts", spec := "slotInverts", unfollowed := true, recurses := true, named := ["slotcode/ops.none", "slotcode/num.widths"], apart := false, laid := [("slotcode/ops.none", laid_slotcode_ops_none), ("slotcode/num.widths", laid_slotcode_num_widths)] }
def SlotInvertsSaid : Prop := slotInvertsRow.holds Tryd.pinned (OpenSpec.ofChange slotInvertsSpec)

/-- ITS FALSE NEIGHBOUR: 'it returns false'. Refute it at one input. -/
def slotInvertsWrong : ChangeSpec := { name := "slotInverts", fn := fun _ => fun
  | [d1, d2] => { results := [.lit (.bool false)], args := [d1, d2] }
  | _ => none }
def SlotInvertsWrongFalsely : Prop := slotInvertsRow.holds Tryd.pinned (OpenSpec.ofChange slotInvertsWrong)

/-- 'slotcodelaw05.SlotIsCanonical': WHATEVER THE INPUT: true; the input reads as it did. -/
def slotIsCanonicalSpec : ChangeSpec := { name := "slotIsCanonical", fn := fun _ => fun
  | [d] => { results := [.lit (.bool true)], args := [d] }
  | _ => none }
def slotIsCanonicalRow : OpenClaim := { program := "ytnllfppkfdnjpabdoor", sum := "08b6737f4ee574d36c2ea56a599bc223955e784a77375a54829b2855facff715", func := "slotcode/slotcodelaw05.SlotIsCanonical", spec := "slotIsCanonical", unfollowed := true, recurses := true, named := ["slotcode/num.widths", "slotcode/ops.none"], apart := false, laid := [("slotcode/ops.none", laid_slotcode_ops_none), ("slotcode/num.widths", laid_slotcode_num_widths)] }
def SlotIsCanonicalSaid : Prop := slotIsCanonicalRow.holds Tryd.pinned (OpenSpec.ofChange slotIsCanonicalSpec)

/-- ITS FALSE NEIGHBOUR: 'it returns false'. Refute it at one input. -/
def slotIsCanonicalWrong : ChangeSpec := { name := "slotIsCanonical", fn := fun _ => fun
  | [d] => { results := [.lit (.bool false)], args := [d] }
  | _ => none }
def SlotIsCanonicalWrongFalsely : Prop := slotIsCanonicalRow.holds Tryd.pinned (OpenSpec.ofChange slotIsCanonicalWrong)

/-- 'slotcodelaw05.SlotAll': WHATEVER THE INPUT: true; the input reads as it did. -/
def slotAllSpec : ChangeSpec := { name := "slotAll", fn := fun _ => fun
  | [d] => { results := [.lit (.bool true)], args := [d] }
  | _ => none }
def slotAllRow : OpenClaim := { program := "ytnllfppkfdnjpabdoor", sum := "08b6737f4ee574d36c2ea56a599bc223955e784a77375a54829b2855facff715", func := "slotcode/slotcodelaw05.SlotAll", spec := "slotAll", unfollowed := true, recurses := true, named := ["slotcode/ops.none", "slotcode/num.widths"], apart := false, laid := [("slotcode/ops.none", laid_slotcode_ops_none), ("slotcode/num.widths", laid_slotcode_num_widths)] }
def SlotAllSaid : Prop := slotAllRow.holds Tryd.pinned (OpenSpec.ofChange slotAllSpec)

/-- ITS FALSE NEIGHBOUR: 'it returns false'. Refute it at one input. -/
def slotAllWrong : ChangeSpec := { name := "slotAll", fn := fun _ => fun
  | [d] => { results := [.lit (.bool false)], args := [d] }
  | _ => none }
def SlotAllWrongFalsely : Prop := slotAllRow.holds Tryd.pinned (OpenSpec.ofChange slotAllWrong)

/-- 'slotcodelaw05.SlotJoins': WHATEVER THE INPUT: true; the input reads as it did. -/
def slotJoinsSpec : ChangeSpec := { name := "slotJoins", fn := fun _ => fun
  | [d] => { results := [.lit (.bool true)], args := [d] }
  | _ => none }
def slotJoinsRow : OpenClaim := { program := "ytnllfppkfdnjpabdoor", sum := "08b6737f4ee574d36c2ea56a599bc223955e784a77375a54829b2855facff715", func := "slotcode/slotcodelaw05.SlotJoins", spec := "slotJoins", unfollowed := true, recurses := true, named := ["slotcode/ops.none", "slotcode/num.widths"], apart := false, laid := [("slotcode/ops.none", laid_slotcode_ops_none), ("slotcode/num.widths", laid_slotcode_num_widths)] }
def SlotJoinsSaid : Prop := slotJoinsRow.holds Tryd.pinned (OpenSpec.ofChange slotJoinsSpec)

/-- ITS FALSE NEIGHBOUR: 'it returns false'. Refute it at one input. -/
def slotJoinsWrong : ChangeSpec := { name := "slotJoins", fn := fun _ => fun
  | [d] => { results := [.lit (.bool false)], args := [d] }
  | _ => none }
def SlotJoinsWrongFalsely : Prop := slotJoinsRow.holds Tryd.pinned (OpenSpec.ofChange slotJoinsWrong)

/- THE SECOND FORM. 'bulk': how many values and letters a reading holds, each counted each time it is reached (what is shared counts as often as it is met; a slice's spare places count too). A statement '..UptoSaid' is the law's where the arguments, and the package variables that the reading takes, are together of bulk at most 1048576: NARROWER than '..Said'. Prove '..Said' where nothing that the law and all that it calls make is longer than what came in: it says more and counts as full. Else prove '..UptoSaid'. A law counts once. -/
mutual
def uptoBulk {H : Type} : DataW H → Nat
  | .lit (.string bytes) => bytes.length + 1
  | .lit _ => 1
  | .nil => 1
  | .ptr d => uptoBulk d + 1
  | .slice elems spare => uptoBulkAll elems + uptoBulkAll spare + 1
  | .agg parts => uptoBulkAll parts + 1
  | .iface _ d => uptoBulk d + 1
  | .map entries => uptoBulkEntries entries + 1
  | .held _ => 1
def uptoBulkAll {H : Type} : List (DataW H) → Nat
  | [] => 0
  | d :: r => uptoBulk d + uptoBulkAll r
def uptoBulkEntries {H : Type} : List (Lit × DataW H) → Nat
  | [] => 0
  | x :: r => uptoBulkEntry x + uptoBulkEntries r
def uptoBulkEntry {H : Type} : Lit × DataW H → Nat
  | (.string bytes, d) => bytes.length + uptoBulk d + 1
  | (_, d) => uptoBulk d + 1
 end
def uptoSmall : (H : Type) → List (DataW H) → Bool := fun _ ds => decide (uptoBulkAll ds ≤ 1048576)
def OpenSpec.upto (s : _root_.Go.ChangeSpec) : _root_.Go.OpenSpec := { _root_.Go.OpenSpec.ofChange s with cond := some uptoSmall }

/-- 'slotcodelaw06.AluDoes', WHERE WHAT IT READS IS OF BULK AT MOST 1048576: true; the input reads as it did. -/
def aluDoesUptoRow : OpenClaim := { program := "ytnllfppkfdnjpabdoor", sum := "08b6737f4ee574d36c2ea56a599bc223955e784a77375a54829b2855facff715", func := "slotcode/slotcodelaw06.AluDoes", spec := "aluDoes", unfollowed := true, recurses := true, named := ["slotcode/ops.none", "slotcode/num.widths"], apart := false, laid := [("slotcode/ops.none", laid_slotcode_ops_none), ("slotcode/num.widths", laid_slotcode_num_widths)], narrowed := true }
def AluDoesUptoSaid : Prop := aluDoesUptoRow.holds Tryd.pinned (OpenSpec.upto aluDoesSpec)

/-- 'slotcodelaw06.AluOperands', WHERE WHAT IT READS IS OF BULK AT MOST 1048576: true; the input reads as it did. -/
def aluOperandsUptoRow : OpenClaim := { program := "ytnllfppkfdnjpabdoor", sum := "08b6737f4ee574d36c2ea56a599bc223955e784a77375a54829b2855facff715", func := "slotcode/slotcodelaw06.AluOperands", spec := "aluOperands", unfollowed := true, recurses := true, named := ["slotcode/ops.none", "slotcode/num.widths"], apart := false, laid := [("slotcode/ops.none", laid_slotcode_ops_none), ("slotcode/num.widths", laid_slotcode_num_widths)], narrowed := true }
def AluOperandsUptoSaid : Prop := aluOperandsUptoRow.holds Tryd.pinned (OpenSpec.upto aluOperandsSpec)

/-- 'slotcodelaw06.AluSwaps', WHERE WHAT IT READS IS OF BULK AT MOST 1048576: true; the input reads as it did. -/
def aluSwapsUptoRow : OpenClaim := { program := "ytnllfppkfdnjpabdoor", sum := "08b6737f4ee574d36c2ea56a599bc223955e784a77375a54829b2855facff715", func := "slotcode/slotcodelaw06.AluSwaps", spec := "aluSwaps", unfollowed := true, recurses := true, named := ["slotcode/ops.none", "slotcode/num.widths"], apart := false, laid := [("slotcode/ops.none", laid_slotcode_ops_none), ("slotcode/num.widths", laid_slotcode_num_widths)], narrowed := true }
def AluSwapsUptoSaid : Prop := aluSwapsUptoRow.holds Tryd.pinned (OpenSpec.upto aluSwapsSpec)

/-- 'slotcodelaw06.AluDivides', WHERE WHAT IT READS IS OF BULK AT MOST 1048576: true; the input reads as it did. -/
def aluDividesUptoRow : OpenClaim := { program := "ytnllfppkfdnjpabdoor", sum := "08b6737f4ee574d36c2ea56a599bc223955e784a77375a54829b2855facff715", func := "slotcode/slotcodelaw06.AluDivides", spec := "aluDivides", unfollowed := true, recurses := true, named := ["slotcode/ops.none", "slotcode/num.widths"], apart := false, laid := [("slotcode/ops.none", laid_slotcode_ops_none), ("slotcode/num.widths", laid_slotcode_num_widths)], narrowed := true }
def AluDividesUptoSaid : Prop := aluDividesUptoRow.holds Tryd.pinned (OpenSpec.upto aluDividesSpec)

/-- 'slotcodelaw06.AluLow', WHERE WHAT IT READS IS OF BULK AT MOST 1048576: true; the input reads as it did. -/
def aluLowUptoRow : OpenClaim := { program := "ytnllfppkfdnjpabdoor", sum := "08b6737f4ee574d36c2ea56a599bc223955e784a77375a54829b2855facff715", func := "slotcode/slotcodelaw06.AluLow", spec := "aluLow", unfollowed := true, recurses := true, named := ["slotcode/ops.none", "slotcode/num.widths"], apart := false, laid := [("slotcode/ops.none", laid_slotcode_ops_none), ("slotcode/num.widths", laid_slotcode_num_widths)], narrowed := true }
def AluLowUptoSaid : Prop := aluLowUptoRow.holds Tryd.pinned (OpenSpec.upto aluLowSpec)

/-- 'slotcodelaw06.AluInverse', WHERE WHAT IT READS IS OF BULK AT MOST 1048576: true; the input reads as it did. -/
def aluInverseUptoRow : OpenClaim := { program := "ytnllfppkfdnjpabdoor", sum := "08b6737f4ee574d36c2ea56a599bc223955e784a77375a54829b2855facff715", func := "slotcode/slotcodelaw06.AluInverse", spec := "aluInverse", unfollowed := true, recurses := true, named := ["slotcode/ops.none", "slotcode/num.widths"], apart := false, laid := [("slotcode/ops.none", laid_slotcode_ops_none), ("slotcode/num.widths", laid_slotcode_num_widths)], narrowed := true }
def AluInverseUptoSaid : Prop := aluInverseUptoRow.holds Tryd.pinned (OpenSpec.upto aluInverseSpec)

/-- 'slotcodelaw05.SlotEncodes', WHERE WHAT IT READS IS OF BULK AT MOST 1048576: true; the input reads as it did. -/
def slotEncodesUptoRow : OpenClaim := { program := "ytnllfppkfdnjpabdoor", sum := "08b6737f4ee574d36c2ea56a599bc223955e784a77375a54829b2855facff715", func := "slotcode/slotcodelaw05.SlotEncodes", spec := "slotEncodes", unfollowed := true, recurses := true, named := ["slotcode/ops.none", "slotcode/num.widths"], apart := false, laid := [("slotcode/ops.none", laid_slotcode_ops_none), ("slotcode/num.widths", laid_slotcode_num_widths)], narrowed := true }
def SlotEncodesUptoSaid : Prop := slotEncodesUptoRow.holds Tryd.pinned (OpenSpec.upto slotEncodesSpec)

/-- 'slotcodelaw05.SlotDecodes', WHERE WHAT IT READS IS OF BULK AT MOST 1048576: true; the input reads as it did. -/
def slotDecodesUptoRow : OpenClaim := { program := "ytnllfppkfdnjpabdoor", sum := "08b6737f4ee574d36c2ea56a599bc223955e784a77375a54829b2855facff715", func := "slotcode/slotcodelaw05.SlotDecodes", spec := "slotDecodes", unfollowed := true, recurses := true, named := ["slotcode/num.widths", "slotcode/ops.none"], apart := false, laid := [("slotcode/ops.none", laid_slotcode_ops_none), ("slotcode/num.widths", laid_slotcode_num_widths)], narrowed := true }
def SlotDecodesUptoSaid : Prop := slotDecodesUptoRow.holds Tryd.pinned (OpenSpec.upto slotDecodesSpec)

/-- 'slotcodelaw05.SlotInverts', WHERE WHAT IT READS IS OF BULK AT MOST 1048576: true; the input reads as it did. -/
def slotInvertsUptoRow : OpenClaim := { program := "ytnllfppkfdnjpabdoor", sum := "08b6737f4ee574d36c2ea56a599bc223955e784a77375a54829b2855facff715", func := "slotcode/slotcodelaw05.SlotInverts", spec := "slotInverts", unfollowed := true, recurses := true, named := ["slotcode/ops.none", "slotcode/num.widths"], apart := false, laid := [("slotcode/ops.none", laid_slotcode_ops_none), ("slotcode/num.widths", laid_slotcode_num_widths)], narrowed := true }
def SlotInvertsUptoSaid : Prop := slotInvertsUptoRow.holds Tryd.pinned (OpenSpec.upto slotInvertsSpec)

/-- 'slotcodelaw05.SlotIsCanonical', WHERE WHAT IT READS IS OF BULK AT MOST 1048576: true; the input reads as it did. -/
def slotIsCanonicalUptoRow : OpenClaim := { program := "ytnllfppkfdnjpabdoor", sum := "08b6737f4ee574d36c2ea56a599bc223955e784a77375a54829b2855facff715", func := "slotcode/slotcodelaw05.SlotIsCanonical", spec := "slotIsCanonical", unfollowed := true, recurses := true, named := ["slotcode/num.widths", "slotcode/ops.none"], apart := false, laid := [("slotcode/ops.none", laid_slotcode_ops_none), ("slotcode/num.widths", laid_slotcode_num_widths)], narrowed := true }
def SlotIsCanonicalUptoSaid : Prop := slotIsCanonicalUptoRow.holds Tryd.pinned (OpenSpec.upto slotIsCanonicalSpec)

/-- 'slotcodelaw05.SlotAll', WHERE WHAT IT READS IS OF BULK AT MOST 1048576: true; the input reads as it did. -/
def slotAllUptoRow : OpenClaim := { program := "ytnllfppkfdnjpabdoor", sum := "08b6737f4ee574d36c2ea56a599bc223955e784a77375a54829b2855facff715", func := "slotcode/slotcodelaw05.SlotAll", spec := "slotAll", unfollowed := true, recurses := true, named := ["slotcode/ops.none", "slotcode/num.widths"], apart := false, laid := [("slotcode/ops.none", laid_slotcode_ops_none), ("slotcode/num.widths", laid_slotcode_num_widths)], narrowed := true }
def SlotAllUptoSaid : Prop := slotAllUptoRow.holds Tryd.pinned (OpenSpec.upto slotAllSpec)

/-- 'slotcodelaw05.SlotJoins', WHERE WHAT IT READS IS OF BULK AT MOST 1048576: true; the input reads as it did. -/
def slotJoinsUptoRow : OpenClaim := { program := "ytnllfppkfdnjpabdoor", sum := "08b6737f4ee574d36c2ea56a599bc223955e784a77375a54829b2855facff715", func := "slotcode/slotcodelaw05.SlotJoins", spec := "slotJoins", unfollowed := true, recurses := true, named := ["slotcode/ops.none", "slotcode/num.widths"], apart := false, laid := [("slotcode/ops.none", laid_slotcode_ops_none), ("slotcode/num.widths", laid_slotcode_num_widths)], narrowed := true }
def SlotJoinsUptoSaid : Prop := slotJoinsUptoRow.holds Tryd.pinned (OpenSpec.upto slotJoinsSpec)

end Rows
end Go.Proofs.YtnllfppkfdnjpabDoor
