/- The example of chapter 4 holds. -/
import Derived.Test.YtnllfppkfdnjpaaDoorChk
import Derived.Test.YtnllfppkfdnjpaaDoorBox
import Derived.Test.YtnllfppkfdnjpaaDoorIx1h
import Derived.Test.YtnllfppkfdnjpaaDoorIx1h
import Derived.Test.YtnllfppkfdnjpaaDoorIx1h
import Derived.Test.YtnllfppkfdnjpaaDoorIx1h
import Derived.Test.YtnllfppkfdnjpaaDoorIx1h
namespace Go.Proofs.YtnllfppkfdnjpaaDoor.Q
open Go Go.RowKit Go.Proofs.YtnllfppkfdnjpaaDoor.Ops Go.Proofs.YtnllfppkfdnjpaaDoorW.PrintWords

theorem al1 : insn_Check.f 0 true 1 2 0 0 = some 0 := by kernel_rfl
theorem al2 : insn_Check.f 0 true 1 2 0 5 = some 12 := by kernel_rfl
theorem al3 : insn_Check.f 0 true 1 11 0 0 = some 5 := by kernel_rfl
theorem al4 : insn_Uses.f 10 0 true = some (true, true, false, false) := by kernel_rfl
theorem al5 : insn_Slots.f 84 = some 2 := by kernel_rfl
theorem al6 : insn_Writes.f 10 0 true 1 2 0 0 = some 1 := by kernel_rfl
theorem al7 : insn_Ends.f 68 false 0 0 0 0 = some true := by kernel_rfl
theorem al8 : insn_Jumps.f 68 false 0 0 0 0 = some false := by kernel_rfl
theorem al9 : insn_Jumps.f 45 false 0 0 0 0 = some true := by kernel_rfl

theorem below3 (w : World) (o1 o2 o3 : Obj) : Below w.heap.size w (((w.alloc o1).alloc o2).alloc o3).drew :=
  ((((Below.refl _ w).alloc (Nat.le_refl _) o1).alloc (by simp) o2).alloc (by simp; omega) o3).drew
theorem box1 (w : World) (o : Int) (r : Bool) (d s f im : Int) (o2 o3 : Obj) : Box (((w.alloc (.cells #[.int .i64 o, .bool r, .int .i64 d, .int .i64 s, .int .i64 f, .int .i64 im] 29)).alloc o2).alloc o3).drew w.heap.size o r d s f im :=
  (((box0 w o r d s f im).alloc _).alloc _).drew
theorem box2 (w : World) (o : Int) (r : Bool) (d s f im : Int) (o1 o3 : Obj) : Box (((w.alloc o1).alloc (.cells #[.int .i64 o, .bool r, .int .i64 d, .int .i64 s, .int .i64 f, .int .i64 im] 29)).alloc o3).drew (w.heap.size + 1) o r d s f im := by
  have h := ((box0 (w.alloc o1) o r d s f im).alloc o3).drew
  rw [show (w.alloc o1).heap.size = w.heap.size + 1 by simp] at h
  exact h
theorem box3 (w : World) (o : Int) (r : Bool) (d s f im : Int) (o1 o2 : Obj) : Box (((w.alloc o1).alloc o2).alloc (.cells #[.int .i64 o, .bool r, .int .i64 d, .int .i64 s, .int .i64 f, .int .i64 im] 29)).drew (w.heap.size + 1 + 1) o r d s f im := by
  have h := (box0 ((w.alloc o1).alloc o2) o r d s f im).drew
  rw [show ((w.alloc o1).alloc o2).heap.size = w.heap.size + 1 + 1 by simp] at h
  exact h

set_option maxRecDepth 100000 in
set_option maxHeartbeats 4000000 in
theorem alive4_any (w : World) (hG : GG w) : Calls Tryd.prog 16 #[] w fun e w' => e = .returned (.bool true) ∧ Below w.heap.size w w' := by
  go_enter Tryd.func16, Tryd.ntmps16
  go_wp2_with fail
  go_region
  all_goals (go_wp2_with fail)
  all_goals (
    refine (insn_Check.calls 0 true 1 2 0 0 0 _ al1 (G_at hG (below3 _ _ _ _))).mono ?_
    rintro e w1 ⟨rfl, hb⟩
    have p1 := (box1 _ _ _ _ _ _ _ _ _).step hb
    have p2 := (box2 _ _ _ _ _ _ _ _ _).step hb
    have p3 := (box3 _ _ _ _ _ _ _ _ _).step hb
    have hB := (below3 _ _ _ _).trans (hb.mono (below3 _ _ _ _).size)
    clear hb
    have b0 := p2.c0
    have b1 := p2.c1
    have b2 := p2.c2
    have b3 := p2.c3
    have b4 := p2.c4
    have b5 := p2.c5
    have c0 := p3.c0
    have c1 := p3.c1
    have c2 := p3.c2
    have c3 := p3.c3
    have c4 := p3.c4
    have c5 := p3.c5
    go_wp2_with fail)
  all_goals (
    refine (insn_Check.calls 0 true 1 2 0 5 12 _ al2 (G_at hG hB)).mono ?_
    rintro e w2 ⟨rfl, hb⟩
    have p1 := p1.step hb
    have p2 := p2.step hb
    have p3 := p3.step hb
    have hB := hB.trans (hb.mono hB.size)
    clear hb
    have b0 := p2.c0
    have b1 := p2.c1
    have b2 := p2.c2
    have b3 := p2.c3
    have b4 := p2.c4
    have b5 := p2.c5
    have c0 := p3.c0
    have c1 := p3.c1
    have c2 := p3.c2
    have c3 := p3.c3
    have c4 := p3.c4
    have c5 := p3.c5
    go_wp2_with fail)
  all_goals (
    refine (insn_Check.calls 0 true 1 11 0 0 5 _ al3 (G_at hG hB)).mono ?_
    rintro e w3 ⟨rfl, hb⟩
    have p1 := p1.step hb
    have p2 := p2.step hb
    have p3 := p3.step hb
    have hB := hB.trans (hb.mono hB.size)
    clear hb
    have a0 := p1.c0
    have a1 := p1.c1
    have a2 := p1.c2
    have a3 := p1.c3
    have a4 := p1.c4
    have a5 := p1.c5
    go_wp2_with fail)
  all_goals (
    refine (insn_Uses.calls 10 0 true true true false false _ al4 (G_at hG hB)).mono ?_
    rintro e w4 ⟨rfl, hb⟩
    have p1 := p1.step hb
    have p2 := p2.step hb
    have p3 := p3.step hb
    have hB := hB.trans (hb.mono hB.size)
    clear hb
    have a0 := p1.c0
    have a1 := p1.c1
    have a2 := p1.c2
    have a3 := p1.c3
    have a4 := p1.c4
    have a5 := p1.c5
    go_wp2_with fail)
  all_goals (
    refine (insn_Slots.calls 84 2 _ al5 (G_at hG hB)).mono ?_
    rintro e w5 ⟨rfl, hb⟩
    have p1 := p1.step hb
    have p2 := p2.step hb
    have p3 := p3.step hb
    have hB := hB.trans (hb.mono hB.size)
    clear hb
    have a0 := p1.c0
    have a1 := p1.c1
    have a2 := p1.c2
    have a3 := p1.c3
    have a4 := p1.c4
    have a5 := p1.c5
    go_wp2_with fail)
  all_goals (
    refine (insn_Writes.calls 10 0 true 1 2 0 0 1 _ al6 (G_at hG hB)).mono ?_
    rintro e w6 ⟨rfl, hb⟩
    have p1 := p1.step hb
    have p2 := p2.step hb
    have p3 := p3.step hb
    have hB := hB.trans (hb.mono hB.size)
    clear hb
    go_wp2_with fail)
  all_goals (
    refine (insn_Ends.calls 68 false 0 0 0 0 true _ al7 (G_at hG hB)).mono ?_
    rintro e w7 ⟨rfl, hb⟩
    have p1 := p1.step hb
    have p2 := p2.step hb
    have p3 := p3.step hb
    have hB := hB.trans (hb.mono hB.size)
    clear hb
    go_wp2_with fail)
  all_goals (
    refine (insn_Jumps.calls 68 false 0 0 0 0 false _ al8 (G_at hG hB)).mono ?_
    rintro e w8 ⟨rfl, hb⟩
    have p1 := p1.step hb
    have p2 := p2.step hb
    have p3 := p3.step hb
    have hB := hB.trans (hb.mono hB.size)
    clear hb
    go_wp2_with fail)
  all_goals (
    refine (insn_Jumps.calls 45 false 0 0 0 0 true _ al9 (G_at hG hB)).mono ?_
    rintro e w9 ⟨rfl, hb⟩
    have hB := hB.trans (hb.mono hB.size)
    clear hb
    go_wp2_with fail
    go_ret
    exact ⟨rfl, hB⟩)
def slotcodelaw04_alive.f : Option Bool := some true
theorem slotcodelaw04_alive.calls (r : Bool) (w : World) (h : slotcodelaw04_alive.f = some r) (hG : GG w) : Calls Tryd.prog 16 #[] w fun e w' => e = .returned (.bool r) ∧ Below w.heap.size w w' := by
  obtain rfl := Option.some.inj h
  exact alive4_any w hG
end Go.Proofs.YtnllfppkfdnjpaaDoor.Q
