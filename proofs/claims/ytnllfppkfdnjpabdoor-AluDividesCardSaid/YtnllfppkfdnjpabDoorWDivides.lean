/- The law AluDivides: what the printed function says is always true; its walk. -/
import Derived.Test.YtnllfppkfdnjpabDoorPAlu
import Derived.Test.YtnllfppkfdnjpabDoorJx3
import Derived.OpenShut
namespace Go.Proofs.YtnllfppkfdnjpabDoor.Q
open Go Go.RowKit Go.Proofs.YtnllfppkfdnjpabDoor.Ops Go.Proofs.YtnllfppkfdnjpabDoorW.PrintWords

theorem aluDivides_true (a b : Int) (ha : -9223372036854775808 ≤ a ∧ a ≤ 9223372036854775807) (hb : -9223372036854775808 ≤ b ∧ b ≤ 9223372036854775807) : slotcodelaw06_AluDivides.f a b = some true := by
  unfold slotcodelaw06_AluDivides.f slotcodelaw06_alive.f
  rw [divide_f, rdivide_f ha hb]
  simp only [Option.bind_some, if_true]
  unfold divG
  by_cases h0 : b = 0
  · subst h0
    have hw : wrap64 (wrap64 0 + a) = a := by unfold wrap64; omega
    simp [hw]
  · rw [if_neg h0, if_pos (div_back a b ha)]
    simp only [if_neg h0]
    by_cases hr : Int.tmod a b = 0
    · rw [if_pos hr]
    · rw [if_neg hr, if_pos (tmod_sign hr)]
      by_cases hm : b = -9223372036854775808
      · rw [if_pos hm]
      · rw [if_neg hm, decide_eq_true (mx_lt ha hb h0 hm)]
end Go.Proofs.YtnllfppkfdnjpabDoor.Q
namespace Go.Proofs.YtnllfppkfdnjpabDoor.L
open Go Go.RowKit Go.Proofs.YtnllfppkfdnjpabDoor.Ops Go.Proofs.YtnllfppkfdnjpabDoor.Q Go.Proofs.YtnllfppkfdnjpabDoorW.PrintWords

theorem aluDivides_walk (a : Int) (ha : (Lit.int .i64 a).wf = true) (b : Int) (hb : (Lit.int .i64 b).wf = true) (w : World) (hG : GG w) :
    Calls Tryd.prog 6 #[.int .i64 a, .int .i64 b] w fun e w' => e = .returned (.bool true) ∧ Below w.heap.size w w' :=
  slotcodelaw06_AluDivides.calls a b true w (aluDivides_true a b (bounds_i64 ha) (bounds_i64 hb)) hG
end Go.Proofs.YtnllfppkfdnjpabDoor.L
