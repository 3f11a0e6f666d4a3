/- The readers of package ops in the form in which the printed texts use their callees: a Lean function and its contract. -/
import Derived.Test.YtnllfppkfdnjpabDoorWid
import Derived.Test.YtnllfppkfdnjpabDoorOps
namespace Go.Proofs.YtnllfppkfdnjpabDoor.Q
open Go Go.RowKit Go.Proofs.YtnllfppkfdnjpabDoor.Ops

abbrev GG (w : World) : Prop := Go.Proofs.YtnllfppkfdnjpabDoor.Ops.G w ∧ Go.Proofs.YtnllfppkfdnjpabDoor.Ops.WG w
theorem G_at {w w' : World} (h : GG w) (hb : Below w.heap.size w w') : GG w' := ⟨h.1.below h.1.lt hb, h.2.below hb⟩

def ops_Name.f (a0 : Int) : Option ByteArray := some (nameS a0)
theorem ops_Name.calls (a0 : Int) (r : ByteArray) (w : World) (h : ops_Name.f a0 = some r) (hG : GG w) : Calls Tryd.prog 78 #[.int .i64 a0] w fun e w' => e = .returned (.string r) ∧ Below w.heap.size w w' := by
  obtain rfl := Option.some.inj h
  exact name_any a0 w hG.1
def ops_Form.f (a0 : Int) : Option Int := some (formS a0)
theorem ops_Form.calls (a0 : Int) (r : Int) (w : World) (h : ops_Form.f a0 = some r) (hG : GG w) : Calls Tryd.prog 41 #[.int .i64 a0] w fun e w' => e = .returned (.int .i64 r) ∧ Below w.heap.size w w' := by
  obtain rfl := Option.some.inj h
  exact form_any a0 w hG.1
def ops_Bits.f (a0 : Int) : Option Int := some (bitsS a0)
theorem ops_Bits.calls (a0 : Int) (r : Int) (w : World) (h : ops_Bits.f a0 = some r) (hG : GG w) : Calls Tryd.prog 40 #[.int .i64 a0] w fun e w' => e = .returned (.int .i64 r) ∧ Below w.heap.size w w' := by
  obtain rfl := Option.some.inj h
  exact bits_any a0 w hG.1
def ops_Fixed.f (a0 : Int) : Option (Int × Int × Int) := some (srcS a0, offS a0, immS a0)
theorem ops_Fixed.calls (a0 : Int) (r1 r2 r3 : Int) (w : World) (h : ops_Fixed.f a0 = some (r1, r2, r3)) (hG : GG w) : Calls Tryd.prog 44 #[.int .i64 a0] w fun e w' => e = .returned (.tuple #[.int .i64 r1, .int .i64 r2, .int .i64 r3]) ∧ Below w.heap.size w w' := by
  have h := Option.some.inj h
  simp only [Prod.mk.injEq] at h
  obtain ⟨rfl, rfl, rfl⟩ := h
  exact fixed_any a0 w hG.1
end Go.Proofs.YtnllfppkfdnjpabDoor.Q
