/- The law CondPairs: what the printed function says is always true; its walk. -/
import Derived.Test.YtnllfppkfdnjpaaDoorPCond3
import Derived.Test.YtnllfppkfdnjpaaDoorIx4
import Derived.OpenShut
namespace Go.Proofs.YtnllfppkfdnjpaaDoor.Q
open Go Go.RowKit Go.Proofs.YtnllfppkfdnjpaaDoor.Ops Go.Proofs.YtnllfppkfdnjpaaDoorW.PrintWords

theorem pairs_all : (List.range 86).map (fun n => slotcodelaw07_CondPairs.f 50 (Int.ofNat n)) = (List.range 86).map (fun _ => some true) := by kernel_rfl
theorem condPairs_true (o : Int) : slotcodelaw07_CondPairs.f 50 o = some true := by
  by_cases hi : Is o
  · exact in_rangeC (f := fun n => slotcodelaw07_CondPairs.f 50 n) (g := fun _ => some true) pairs_all o hi
  · have hf : formS o = -1 := formS_outC hi
    have hp : ∀ l, pairF l o = (0, false) := fun l => by unfold pairF; rw [hf]; rfl
    have hr : ∀ l, slotcoderef07_pair.f 50 o l = some (0, false) := fun l => by
      unfold slotcoderef07_pair.f
      rw [form_fC 50 (by omega), hf]
      rfl
    unfold slotcodelaw07_CondPairs.f cond_Opposite.f cond_Mirror.f slotcoderef07_Opposite.f slotcoderef07_Mirror.f
    rw [hp, hp, hr, hr]
    simp only [Option.bind_some]
    unfold slotcodelaw07_CondPairs.j0 cond_Opposite.f cond_Mirror.f slotcodelaw07_alive.f
    simp
end Go.Proofs.YtnllfppkfdnjpaaDoor.Q
namespace Go.Proofs.YtnllfppkfdnjpaaDoor.L
open Go Go.RowKit Go.Proofs.YtnllfppkfdnjpaaDoor.Ops Go.Proofs.YtnllfppkfdnjpaaDoor.Q Go.Proofs.YtnllfppkfdnjpaaDoorW.PrintWords

theorem condPairs_walk (a : Int) (_ : (Lit.int .i64 a).wf = true) (w : World) (hG : GG w) : Calls Tryd.prog 10 #[.int .i64 a] w fun e w' => e = .returned (.bool true) ∧ Below w.heap.size w w' :=
  slotcodelaw07_CondPairs.calls 50 a true w (condPairs_true a) hG
end Go.Proofs.YtnllfppkfdnjpaaDoor.L
