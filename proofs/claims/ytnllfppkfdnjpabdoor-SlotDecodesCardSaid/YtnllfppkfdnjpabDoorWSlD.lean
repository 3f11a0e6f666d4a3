/- The law SlotDecodes: its function returns true; the walk. -/
import Derived.Test.YtnllfppkfdnjpabDoorPSl5
import Derived.Test.YtnllfppkfdnjpabDoorKx16
import Derived.OpenShut
namespace Go.Proofs.YtnllfppkfdnjpabDoor.Q
open Go Go.RowKit Go.Proofs.YtnllfppkfdnjpabDoor.Ops Go.Proofs.YtnllfppkfdnjpabDoorW.PrintWords

theorem slotDecodes_true (l : List Int) (hb : Bytes l) : slotcodelaw05_SlotDecodes.f 300 l = some true := by
  have h1 := dec_f 300 (by omega) l hb
  have h2 := rdec_f 300 (by omega) l hb
  generalize decB l = t at h1 h2
  unfold slotcodelaw05_SlotDecodes.f
  refine bindE h1 ?_
  refine bindE h2 ?_
  refine bindE (a := true) rfl ?_
  refine (if_pos rfl).trans ?_
  refine (if_pos (by simp)).trans ?_
  refine (if_pos rfl).trans ?_
  simp
end Go.Proofs.YtnllfppkfdnjpabDoor.Q
namespace Go.Proofs.YtnllfppkfdnjpabDoor.L
open Go Go.RowKit Go.Proofs.YtnllfppkfdnjpabDoor.Ops Go.Proofs.YtnllfppkfdnjpabDoor.Q Go.Proofs.YtnllfppkfdnjpabDoorW.PrintWords

theorem byte_bounds {a : Int} (h : (Lit.int .u8 a).wf = true) : 0 ≤ a ∧ a ≤ 255 := by
  have := bounds_u8 h
  omega
theorem bytes_wf {l : List Int} (q : ∀ y ∈ l, (Lit.int .u8 y).wf = true) : Bytes l := fun y hy => byte_bounds (q y hy)
theorem slotDecodes_walk (w : World) (hG : GG w) (A : Option Addr) (c : Nat) (l : List Int) (hc : l.length ≤ c) (hr : Kd.C (Kd.int .u8) w A l.length l) (q : ∀ y ∈ l, (Lit.int .u8 y).wf = true) :
    Calls Tryd.prog 10 #[.slice A l.length c] w fun e w' => e = .returned (.bool true) ∧ Below w.heap.size w w' :=
  slotcodelaw05_SlotDecodes.calls 300 A c l true w hr hc (slotDecodes_true l (bytes_wf q)) hG
end Go.Proofs.YtnllfppkfdnjpabDoor.L
