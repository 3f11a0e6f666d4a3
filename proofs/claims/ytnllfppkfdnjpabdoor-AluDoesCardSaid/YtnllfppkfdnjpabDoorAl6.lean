/- The examples of chapter 6 hold. -/
import Derived.Test.YtnllfppkfdnjpabDoorCmp
import Derived.Test.YtnllfppkfdnjpabDoorJx1
namespace Go.Proofs.YtnllfppkfdnjpabDoor.Q
open Go Go.RowKit Go.Proofs.YtnllfppkfdnjpabDoor.Ops Go.Proofs.YtnllfppkfdnjpabDoorW.PrintWords

theorem at1 : alu_Do.f 14 false 0 0 0 7 4294967301 0 = some (12, true) := by kernel_rfl
theorem at2 : alu_Do.f 3 false 0 0 0 0 5 0 = some (0, true) := by kernel_rfl
theorem at3 : alu_Do.f 8 true 0 0 0 0 5 0 = some (5, true) := by kernel_rfl
theorem at4 : alu_Do.f 38 false 0 0 0 0 1122867 0 = some (13090, true) := by kernel_rfl
theorem at5 : alu_Do.f 68 false 0 0 0 0 1 1 = some (1, false) := by kernel_rfl
theorem at6 : alu_Divide.f (-7) 2 = some (-3, -1) := by kernel_rfl
theorem at7 : alu_Swap.f 258 16 = some 513 := by kernel_rfl
theorem at8 : alu_Operand.f 0 false 0 0 0 (-1) 5 = some 18446744073709551615 := by kernel_rfl
set_option maxRecDepth 100000 in
set_option maxHeartbeats 4000000 in
theorem alive6_any (w : World) (hG : GG w) : Calls Tryd.prog 17 #[] w fun e w' => e = .returned (.bool true) ∧ Below w.heap.size w w' := by
  have hB := Below.refl w.heap.size w
  go_enter Tryd.func17, Tryd.ntmps17
  go_wp2_with fail
  refine (alu_Do.calls 14 false 0 0 0 7 4294967301 0 12 true _ at1 (G_at hG hB)).mono ?_
  rintro e w1 ⟨rfl, hb⟩
  have hB := hB.trans (hb.mono hB.size)
  clear hb
  go_wp2_with fail
  refine (alu_Do.calls 3 false 0 0 0 0 5 0 0 true _ at2 (G_at hG hB)).mono ?_
  rintro e w2 ⟨rfl, hb⟩
  have hB := hB.trans (hb.mono hB.size)
  clear hb
  go_wp2_with fail
  refine (alu_Do.calls 8 true 0 0 0 0 5 0 5 true _ at3 (G_at hG hB)).mono ?_
  rintro e w3 ⟨rfl, hb⟩
  have hB := hB.trans (hb.mono hB.size)
  clear hb
  go_wp2_with fail
  refine (alu_Do.calls 38 false 0 0 0 0 1122867 0 13090 true _ at4 (G_at hG hB)).mono ?_
  rintro e w4 ⟨rfl, hb⟩
  have hB := hB.trans (hb.mono hB.size)
  clear hb
  go_wp2_with fail
  refine (alu_Do.calls 68 false 0 0 0 0 1 1 1 false _ at5 (G_at hG hB)).mono ?_
  rintro e w5 ⟨rfl, hb⟩
  have hB := hB.trans (hb.mono hB.size)
  clear hb
  go_wp2_with fail
  refine (alu_Divide.calls (-7) 2 (-3) (-1) _ at6).mono ?_
  rintro e w6 ⟨rfl, hb⟩
  have hB := hB.trans ((below_of_drawn hb).mono hB.size)
  clear hb
  go_wp2_with fail
  refine (alu_Swap.calls 258 16 513 _ at7).mono ?_
  rintro e w7 ⟨rfl, hb⟩
  have hB := hB.trans ((below_of_drawn hb).mono hB.size)
  clear hb
  go_wp2_with fail
  refine (alu_Operand.calls 0 false 0 0 0 (-1) 5 18446744073709551615 _ at8 (G_at hG hB)).mono ?_
  rintro e w8 ⟨rfl, hb⟩
  have hB := hB.trans (hb.mono hB.size)
  clear hb
  go_wp2_with fail
  go_ret
  exact ⟨rfl, hB⟩
def slotcodelaw06_alive.f : Option Bool := some true
theorem slotcodelaw06_alive.calls (r : Bool) (w : World) (h : slotcodelaw06_alive.f = some r) (hG : GG w) : Calls Tryd.prog 17 #[] w fun e w' => e = .returned (.bool r) ∧ Below w.heap.size w w' := by
  obtain rfl := Option.some.inj h
  exact alive6_any w hG
end Go.Proofs.YtnllfppkfdnjpabDoor.Q
