/- The walks of InsnUses, InsnChecks, InsnSlots, InsnEnds. -/
import Derived.Test.YtnllfppkfdnjpaaDoorPIns2
import Derived.OpenShut
namespace Go.Proofs.YtnllfppkfdnjpaaDoor.L
open Go Go.RowKit Go.Proofs.YtnllfppkfdnjpaaDoor.Ops Go.Proofs.YtnllfppkfdnjpaaDoor.Q Go.Proofs.YtnllfppkfdnjpaaDoorW.PrintWords

theorem insnUses_walk (a : Int) (_ : (Lit.int .i64 a).wf = true) (b : Bool) (w : World) (hG : GG w) : Calls Tryd.prog 3 #[.int .i64 a, .bool b] w fun e w' => e = .returned (.bool true) ∧ Below w.heap.size w w' :=
  slotcodelaw04_InsnUses.calls 40 a b true w (insnUses_true a b) hG
theorem insnChecks_walk (w : World) (hG : GG w) (o : Int) (r : Bool) (d s f i : Int) (q : (Lit.int .i64 o).wf = true ∧ True ∧ (Lit.int .i64 d).wf = true ∧ (Lit.int .i64 s).wf = true ∧ (Lit.int .i64 f).wf = true ∧ (Lit.int .i64 i).wf = true) :
    Calls Tryd.prog 4 #[.agg #[.int .i64 o, .bool r, .int .i64 d, .int .i64 s, .int .i64 f, .int .i64 i]] w fun e w' => e = .returned (.bool true) ∧ Below w.heap.size w w' :=
  slotcodelaw04_InsnChecks.calls o r d s f i true w (insnChecks_true o r d s f i (bounds_i64 q.2.2.2.2.1).1 (bounds_i64 q.2.2.2.2.1).2 (bounds_i64 q.2.2.2.2.2).1 (bounds_i64 q.2.2.2.2.2).2) hG
theorem insnSlots_walk (w : World) (hG : GG w) (o : Int) (r : Bool) (d s f i : Int) {Q : Prop} (_ : Q) :
    Calls Tryd.prog 5 #[.agg #[.int .i64 o, .bool r, .int .i64 d, .int .i64 s, .int .i64 f, .int .i64 i]] w fun e w' => e = .returned (.bool true) ∧ Below w.heap.size w w' :=
  slotcodelaw04_InsnSlots.calls 40 o r d s f i true w (insnSlots_true o r d s f i) hG
theorem insnEnds_walk (w : World) (hG : GG w) (o : Int) (r : Bool) (d s f i : Int) {Q : Prop} (_ : Q) :
    Calls Tryd.prog 6 #[.agg #[.int .i64 o, .bool r, .int .i64 d, .int .i64 s, .int .i64 f, .int .i64 i]] w fun e w' => e = .returned (.bool true) ∧ Below w.heap.size w w' :=
  slotcodelaw04_InsnEnds.calls 40 o r d s f i true w (insnEnds_true o r d s f i) hG
end Go.Proofs.YtnllfppkfdnjpaaDoor.L
