/- The exported readers of package ops: Count, Name, Form, Bits, Fixed, Code. -/
import Derived.Test.YtcbhmnaakoegbaaDoorGet
import Derived.Deep.QuietTactic
import Derived.BigQuiet
import Derived.WalkSmall
namespace Go.Proofs.YtcbhmnaakoegbaaDoor.Ops
open Go Go.RowKit

@[go_sem] theorem fld0 (a b c d e f g : Value) (w : World) : (Instr.field 57 (.agg #[a, b, c, d, e, f, g]) 0).run Tryd.prog w = .ok a w := by kernel_rfl
@[go_sem] theorem fld1 (a b c d e f g : Value) (w : World) : (Instr.field 57 (.agg #[a, b, c, d, e, f, g]) 1).run Tryd.prog w = .ok b w := by kernel_rfl
@[go_sem] theorem fld2 (a b c d e f g : Value) (w : World) : (Instr.field 57 (.agg #[a, b, c, d, e, f, g]) 2).run Tryd.prog w = .ok c w := by kernel_rfl
@[go_sem] theorem fld3 (a b c d e f g : Value) (w : World) : (Instr.field 57 (.agg #[a, b, c, d, e, f, g]) 3).run Tryd.prog w = .ok d w := by kernel_rfl
@[go_sem] theorem fld4 (a b c d e f g : Value) (w : World) : (Instr.field 57 (.agg #[a, b, c, d, e, f, g]) 4).run Tryd.prog w = .ok e w := by kernel_rfl
@[go_sem] theorem fld5 (a b c d e f g : Value) (w : World) : (Instr.field 57 (.agg #[a, b, c, d, e, f, g]) 5).run Tryd.prog w = .ok f w := by kernel_rfl
@[go_sem] theorem fld6 (a b c d e f g : Value) (w : World) : (Instr.field 57 (.agg #[a, b, c, d, e, f, g]) 6).run Tryd.prog w = .ok g w := by kernel_rfl

theorem form_any (n : Int) (w : World) (hG : G w) : Calls Tryd.prog 17 #[.int .i64 n] w fun e w' => e = .returned (.int .i64 (formS n)) ∧ Below w.heap.size w w' := by
  go_enter Tryd.func17, Tryd.ntmps17
  go_wp2_with (go_at_call 24; refine (get_any _ _ hG).mono ?_; rintro e w1 ⟨rfl, hb⟩; unfold getV)
  go_ret
  exact ⟨rfl, hb⟩

end Go.Proofs.YtcbhmnaakoegbaaDoor.Ops
