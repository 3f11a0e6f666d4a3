/- The examples of chapter 5 hold. -/
import Derived.Test.YtnllfppkfdnjpabDoorAl5p
namespace Go.Proofs.YtnllfppkfdnjpabDoor.Q
open Go Go.RowKit Go.Proofs.YtnllfppkfdnjpabDoor.Ops Go.Proofs.YtnllfppkfdnjpabDoorW.PrintWords

theorem alive5_true : alive5p.f 60 = some true := by kernel_rfl
def slotcodelaw05_alive.f : Option Bool := some true
theorem slotcodelaw05_alive.calls (r : Bool) (w : World) (h : slotcodelaw05_alive.f = some r) (hG : GG w) : Calls Tryd.prog 29 #[] w fun e w' => e = .returned (.bool r) ∧ Below w.heap.size w w' := by
  obtain rfl := Option.some.inj h
  exact alive5p.calls_1 60 true w alive5_true hG rfl
end Go.Proofs.YtnllfppkfdnjpabDoor.Q
