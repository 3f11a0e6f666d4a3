/- The functions of package ops (and the reference's Code) in the form in which the printed texts use their callees: a Lean function and its contract. -/
import Derived.Test.YtnllfppkfdnjpaaDoorWid
import Derived.Test.YtnllfppkfdnjpaaDoorOps
namespace Go.Proofs.YtnllfppkfdnjpaaDoor.Q
open Go Go.RowKit Go.Proofs.YtnllfppkfdnjpaaDoor.Ops

abbrev GG (w : World) : Prop := Go.Proofs.YtnllfppkfdnjpaaDoor.Ops.G w ∧ Go.Proofs.YtnllfppkfdnjpaaDoor.Ops.WG w
theorem G_at {w w' : World} (h : GG w) (hb : Below w.heap.size w w') : GG w' := ⟨h.1.below h.1.lt hb, h.2.below hb⟩

def ops_Form.f (a0 : Int) : Option Int := some (formS a0)
theorem ops_Form.calls (a0 : Int) (r : Int) (w : World) (h : ops_Form.f a0 = some r) (hG : GG w) : Calls Tryd.prog 38 #[.int .i64 a0] w fun e w' => e = .returned (.int .i64 r) ∧ Below w.heap.size w w' := by
  obtain rfl := Option.some.inj h
  exact form_any a0 w hG.1
def ops_Bits.f (a0 : Int) : Option Int := some (bitsS a0)
theorem ops_Bits.calls (a0 : Int) (r : Int) (w : World) (h : ops_Bits.f a0 = some r) (hG : GG w) : Calls Tryd.prog 44 #[.int .i64 a0] w fun e w' => e = .returned (.int .i64 r) ∧ Below w.heap.size w w' := by
  obtain rfl := Option.some.inj h
  exact bits_any a0 w hG.1
end Go.Proofs.YtnllfppkfdnjpaaDoor.Q
