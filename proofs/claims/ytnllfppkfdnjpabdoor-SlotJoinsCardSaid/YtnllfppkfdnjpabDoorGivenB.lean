/- What the printed texts of chapter 5 take as given: the readers of package ops, ops.Code, ops.Identify and the reference's Code. -/
import Derived.Test.YtnllfppkfdnjpabDoorGivenA
import Derived.Test.YtnllfppkfdnjpabDoorRCode
import Derived.Test.YtnllfppkfdnjpabDoorWWords
namespace Go.Proofs.YtnllfppkfdnjpabDoor.Q
open Go Go.RowKit Go.Proofs.YtnllfppkfdnjpabDoor.Ops Go.Proofs.YtnllfppkfdnjpabDoorW.PrintWords

def ops_Code.f (a0 : Int) (a1 : Bool) : Option (Int × Bool) := some (codeF a0 a1)
theorem ops_Code.calls (a0 : Int) (a1 : Bool) (r1 : Int) (r2 : Bool) (w : World) (h : ops_Code.f a0 a1 = some (r1, r2)) (hG : GG w) : Calls Tryd.prog 56 #[.int .i64 a0, .bool a1] w fun e w' => e = .returned (.tuple #[.int .u8 r1, .bool r2]) ∧ Below w.heap.size w w' := by
  have h := Option.some.inj h
  have e1 : r1 = (codeF a0 a1).1 := congrArg Prod.fst h.symm
  have e2 : r2 = (codeF a0 a1).2 := congrArg Prod.snd h.symm
  rw [e1, e2]
  exact code_any a0 a1 w hG.1
def slotcoderef03_Code.f (a0 : Int) (a1 : Bool) : Option (Int × Bool) := some (codeF a0 a1)
theorem slotcoderef03_Code.calls (a0 : Int) (a1 : Bool) (r1 : Int) (r2 : Bool) (w : World) (h : slotcoderef03_Code.f a0 a1 = some (r1, r2)) : Calls Tryd.prog 65 #[.int .i64 a0, .bool a1] w fun e w' => e = .returned (.tuple #[.int .u8 r1, .bool r2]) ∧ Below w.heap.size w w' := by
  have h := Option.some.inj h
  have e1 : r1 = (codeF a0 a1).1 := congrArg Prod.fst h.symm
  have e2 : r2 = (codeF a0 a1).2 := congrArg Prod.snd h.symm
  rw [e1, e2]
  exact RC.rcode_any a0 a1 w
/-- Where the evaluator serves: all but the five extensions. -/
def fixV (i : Nat) : Value := .tuple #[.int .i64 (srcS (Int.ofNat i)), .int .i64 (offS (Int.ofNat i)), .int .i64 (immS (Int.ofNat i))]
set_option maxRecDepth 100000 in
theorem rfixed_lo : ∀ B, (List.range 30).map (fun i => Own.lhs (Own.run Tryd.prog Own.noGlob Own.noSpec 1000 5 B 66 #[.int .i64 (Int.ofNat i)])) =
    (List.range 30).map (fun i => Own.rhs (fixV i) (Own.run Tryd.prog Own.noGlob Own.noSpec 1000 5 B 66 #[.int .i64 (Int.ofNat i)])) := fun B => by kernel_rfl
set_option maxRecDepth 100000 in
theorem rfixed_hi : ∀ B, (List.range 51).map (fun i => Own.lhs (Own.run Tryd.prog Own.noGlob Own.noSpec 1000 5 B 66 #[.int .i64 (Int.ofNat (i + 35))])) =
    (List.range 51).map (fun i => Own.rhs (fixV (i + 35)) (Own.run Tryd.prog Own.noGlob Own.noSpec 1000 5 B 66 #[.int .i64 (Int.ofNat (i + 35))])) := fun B => by kernel_rfl
theorem rfixed_mid (n : Nat) (h0 : 30 ≤ n) (h1 : n < 35) (w : World) : Calls Tryd.prog 66 #[.int .i64 (Int.ofNat n)] w fun e w' => e = .returned (fixV n) ∧ Below w.heap.size w w' := by
  obtain rfl | rfl | rfl | rfl | rfl : n = 30 ∨ n = 31 ∨ n = 32 ∨ n = 33 ∨ n = 34 := by omega
  all_goals (
    go_enter Tryd.func66, Tryd.ntmps66
    go_wp2_with fail
    go_region
    all_goals (go_wp2_with fail; go_ret3)
    all_goals exact ⟨rfl, by repeat (first | exact Below.refl _ _ | apply below_alloc | apply pw_below_drewN | apply below_drew1)⟩)
theorem rfixed_any (n : Nat) (h : n < 86) (w : World) : Calls Tryd.prog 66 #[.int .i64 (Int.ofNat n)] w fun e w' => e = .returned (fixV n) ∧ Below w.heap.size w w' := by
  by_cases h0 : n < 30
  · exact Own.calls_range (mk := fun i => #[.int .i64 (Int.ofNat i)]) (val := fixV) rfixed_lo n h0 (Own.noGlob_ok w) (Own.noSpec_ok _ w)
  · by_cases h1 : n < 35
    · exact rfixed_mid n (by omega) h1 w
    · have := Own.calls_range (mk := fun i => #[.int .i64 (Int.ofNat (i + 35))]) (val := fun i => fixV (i + 35)) rfixed_hi (n - 35) (by omega) (Own.noGlob_ok w) (Own.noSpec_ok _ w)
      rwa [Nat.sub_add_cancel (by omega)] at this
/-- The reference's Fixed at an operation. -/
def slotcoderef03_Fixed.f (a0 : Int) : Option (Int × Int × Int) := if 0 ≤ a0 ∧ a0 < 86 then some (srcS a0, offS a0, immS a0) else none
theorem slotcoderef03_Fixed.calls (a0 : Int) (r1 r2 r3 : Int) (w : World) (h : slotcoderef03_Fixed.f a0 = some (r1, r2, r3)) : Calls Tryd.prog 66 #[.int .i64 a0] w fun e w' => e = .returned (.tuple #[.int .i64 r1, .int .i64 r2, .int .i64 r3]) ∧ Below w.heap.size w w' := by
  unfold slotcoderef03_Fixed.f at h
  split at h
  · rename_i hn
    have h := Option.some.inj h
    simp only [Prod.mk.injEq] at h
    obtain ⟨rfl, rfl, rfl⟩ := h
    obtain ⟨m, rfl⟩ := Int.eq_ofNat_of_zero_le hn.1
    exact rfixed_any m (by omega) w
  · cases h
def ops_Identify.f (a0 a1 a2 a3 : Int) : Option (Int × Bool × Bool) := some (identF a0 a1 a2 a3)
theorem ops_Identify.calls (a0 a1 a2 a3 : Int) (r1 : Int) (r2 r3 : Bool) (w : World) (h : ops_Identify.f a0 a1 a2 a3 = some (r1, r2, r3)) (hG : GG w) : Calls Tryd.prog 70 #[.int .u8 a0, .int .i64 a1, .int .i64 a2, .int .i64 a3] w fun e w' =>
    e = .returned (.tuple #[.int .i64 r1, .bool r2, .bool r3]) ∧ Below w.heap.size w w' := by
  have h := Option.some.inj h
  have e1 : r1 = (identF a0 a1 a2 a3).1 := congrArg Prod.fst h.symm
  have e2 : r2 = (identF a0 a1 a2 a3).2.1 := congrArg (fun x => x.2.1) h.symm
  have e3 : r3 = (identF a0 a1 a2 a3).2.2 := congrArg (fun x => x.2.2) h.symm
  rw [e1, e2, e3]
  exact ident_any a0 a1 a2 a3 w hG.1
end Go.Proofs.YtnllfppkfdnjpabDoor.Q
