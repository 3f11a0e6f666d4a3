/- The readers of package ops in the form in which the printed texts use their callees: a Lean function and its contract. -/
import Derived.Test.YtcbhmnaakoegbaaDoorOps
namespace Go.Proofs.YtcbhmnaakoegbaaDoor.Q
open Go Go.RowKit Go.Proofs.YtcbhmnaakoegbaaDoor.Ops

abbrev GG (w : World) : Prop := Go.Proofs.YtcbhmnaakoegbaaDoor.Ops.G w
theorem G_at {w w' : World} (h : GG w) (hb : Below w.heap.size w w') : GG w' := h.below h.lt hb

def ops_Form.f (a0 : Int) : Option Int := some (formS a0)
theorem ops_Form.calls (a0 : Int) (r : Int) (w : World) (h : ops_Form.f a0 = some r) (hG : GG w) : Calls Tryd.prog 17 #[.int .i64 a0] w fun e w' => e = .returned (.int .i64 r) ∧ Below w.heap.size w w' := by
  obtain rfl := Option.some.inj h
  exact form_any a0 w hG
end Go.Proofs.YtcbhmnaakoegbaaDoor.Q
