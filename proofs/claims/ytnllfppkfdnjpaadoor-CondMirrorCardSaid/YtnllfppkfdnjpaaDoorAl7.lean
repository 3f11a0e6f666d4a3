/- The example of chapter 7 holds. -/
import Derived.Test.YtnllfppkfdnjpaaDoorPair
import Derived.Test.YtnllfppkfdnjpaaDoorBox
import Derived.Test.YtnllfppkfdnjpaaDoorIx2
namespace Go.Proofs.YtnllfppkfdnjpaaDoor.Q
open Go Go.RowKit Go.Proofs.YtnllfppkfdnjpaaDoor.Ops Go.Proofs.YtnllfppkfdnjpaaDoorW.PrintWords

theorem as1 : cond_Opposite.f 46 = some (53, true) := by kernel_rfl
theorem as2 : cond_Mirror.f 46 = some (52, true) := by kernel_rfl
theorem as3 : cond_Opposite.f 48 = some (0, false) := by kernel_rfl
theorem as4 : cond_Holds.f 46 false 0 0 0 (-1) 1 0 = some false := by kernel_rfl
theorem as5 : cond_Holds.f 50 true 0 0 0 0 1 18446744073709551615 = some true := by kernel_rfl
theorem as6 : cond_Holds.f 44 false 0 0 0 0 0 0 = some true := by kernel_rfl
theorem below2 (w : World) (o1 o2 : Obj) : Below w.heap.size w ((w.alloc o1).alloc o2) := ((Below.refl _ w).alloc (Nat.le_refl _) o1).alloc (by simp) o2
theorem box2_ (w : World) (o : Int) (r : Bool) (d s f im : Int) (o1 : Obj) : Box ((w.alloc o1).alloc (.cells #[.int .i64 o, .bool r, .int .i64 d, .int .i64 s, .int .i64 f, .int .i64 im] 29)) (w.heap.size + 1) o r d s f im := by
  have h := box0 (w.alloc o1) o r d s f im
  rw [show (w.alloc o1).heap.size = w.heap.size + 1 by simp] at h
  exact h
set_option maxRecDepth 100000 in
set_option maxHeartbeats 4000000 in
theorem alive7_any (w : World) (hG : GG w) : Calls Tryd.prog 30 #[] w fun e w' => e = .returned (.bool true) ∧ Below w.heap.size w w' := by
  go_enter Tryd.func30, Tryd.ntmps30
  go_wp2_with fail
  refine (cond_Opposite.calls 46 53 true _ as1 (G_at hG (below2 _ _ _))).mono ?_
  rintro e w1 ⟨rfl, hb⟩
  have p1 := (((box0 w 46 false 0 0 0 (-1)).alloc _)).step hb
  have p2 := (box2_ _ _ _ _ _ _ _ _).step hb
  have hB := (below2 _ _ _).trans (hb.mono (below2 _ _ _).size)
  clear hb
  go_wp2_with fail
  refine (cond_Mirror.calls 46 52 true _ as2 (G_at hG hB)).mono ?_
  rintro e w2 ⟨rfl, hb⟩
  have p1 := p1.step hb
  have p2 := p2.step hb
  have hB := hB.trans (hb.mono hB.size)
  clear hb
  go_wp2_with fail
  refine (cond_Opposite.calls 48 0 false _ as3 (G_at hG hB)).mono ?_
  rintro e w3 ⟨rfl, hb⟩
  have p1 := p1.step hb
  have p2 := p2.step hb
  have hB := hB.trans (hb.mono hB.size)
  clear hb
  have a0 := p1.c0
  have a1 := p1.c1
  have a2 := p1.c2
  have a3 := p1.c3
  have a4 := p1.c4
  have a5 := p1.c5
  have b0 := p2.c0
  have b1 := p2.c1
  have b2 := p2.c2
  have b3 := p2.c3
  have b4 := p2.c4
  have b5 := p2.c5
  go_wp2_with fail
  refine (cond_Holds.calls 46 false 0 0 0 (-1) 1 0 false _ as4 (G_at hG hB)).mono ?_
  rintro e w4 ⟨rfl, hb⟩
  have p1 := p1.step hb
  have p2 := p2.step hb
  have hB := hB.trans (hb.mono hB.size)
  clear hb
  have a0 := p1.c0
  have a1 := p1.c1
  have a2 := p1.c2
  have a3 := p1.c3
  have a4 := p1.c4
  have a5 := p1.c5
  have b0 := p2.c0
  have b1 := p2.c1
  have b2 := p2.c2
  have b3 := p2.c3
  have b4 := p2.c4
  have b5 := p2.c5
  go_wp2_with fail
  refine (cond_Holds.calls 50 true 0 0 0 0 1 18446744073709551615 true _ as5 (G_at hG hB)).mono ?_
  rintro e w5 ⟨rfl, hb⟩
  have p1 := p1.step hb
  have p2 := p2.step hb
  have hB := hB.trans (hb.mono hB.size)
  clear hb
  have a0 := p1.c0
  have a1 := p1.c1
  have a2 := p1.c2
  have a3 := p1.c3
  have a4 := p1.c4
  have a5 := p1.c5
  have b0 := p2.c0
  have b1 := p2.c1
  have b2 := p2.c2
  have b3 := p2.c3
  have b4 := p2.c4
  have b5 := p2.c5
  go_wp2_with fail
  refine (cond_Holds.calls 44 false 0 0 0 0 0 0 true _ as6 (G_at hG hB)).mono ?_
  rintro e w6 ⟨rfl, hb⟩
  have hB := hB.trans (hb.mono hB.size)
  clear hb
  go_wp2_with fail
  go_ret
  exact ⟨rfl, hB⟩
def slotcodelaw07_alive.f : Option Bool := some true
theorem slotcodelaw07_alive.calls (r : Bool) (w : World) (h : slotcodelaw07_alive.f = some r) (hG : GG w) : Calls Tryd.prog 30 #[] w fun e w' => e = .returned (.bool r) ∧ Below w.heap.size w w' := by
  obtain rfl := Option.some.inj h
  exact alive7_any w hG
end Go.Proofs.YtnllfppkfdnjpaaDoor.Q
