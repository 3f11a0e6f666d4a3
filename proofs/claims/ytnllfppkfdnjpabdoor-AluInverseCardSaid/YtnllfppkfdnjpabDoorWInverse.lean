/- The law AluInverse: what the printed function says is always true; its walk. -/
import Derived.Test.YtnllfppkfdnjpabDoorPAlu
import Derived.Test.YtnllfppkfdnjpabDoorJx3q
import Derived.OpenShut
namespace Go.Proofs.YtnllfppkfdnjpabDoor.Q
open Go Go.RowKit Go.Proofs.YtnllfppkfdnjpabDoor.Ops Go.Proofs.YtnllfppkfdnjpabDoorW.PrintWords

theorem bits_xor64 (a b : Nat) (ha : a < 18446744073709551616) (hb : b < 18446744073709551616) : Go.bits .xor .u64 (a : Int) (b : Int) = ((a ^^^ b : Nat) : Int) := by
  have hx : a ^^^ b < 2 ^ 64 := Nat.xor_lt_two_pow (by omega) (by omega)
  have h1 : (BitVec.ofInt 64 (a : Int)).toNat = a := by
    rw [BitVec.ofInt_natCast, BitVec.toNat_ofNat]; exact Nat.mod_eq_of_lt (by omega)
  have h2 : (BitVec.ofInt 64 (b : Int)).toNat = b := by
    rw [BitVec.ofInt_natCast, BitVec.toNat_ofNat]; exact Nat.mod_eq_of_lt (by omega)
  show IntKind.u64.wrap ((BitVec.ofInt 64 (a : Int) ^^^ BitVec.ofInt 64 (b : Int)).toNat : Int) = _
  rw [BitVec.toNat_xor, h1, h2, u64C]
  omega
theorem do_add (a b : Int) : alu_Do.f 0 true 0 0 0 0 a b = some (IntKind.u64.wrap (a + b), true) := by kernel_rfl
theorem do_sub (a b : Int) : alu_Do.f 1 true 0 0 0 0 a b = some (IntKind.u64.wrap (a - b), true) := by kernel_rfl
theorem do_xor (a b : Int) : alu_Do.f 9 true 0 0 0 0 a b = some (Go.bits .xor .u64 a b, true) := by kernel_rfl
theorem do_neg (a b : Int) : alu_Do.f 28 false 0 0 0 0 a b = some (shr .u64 (shl .u64 (IntKind.u64.wrap (-a)) 0) 0, true) := by kernel_rfl
theorem low_all (x : Int) (h0 : 0 ≤ x) (h1 : x < 18446744073709551616) : shr .u64 (shl .u64 x 0) 0 = x := by
  unfold shr shl
  rw [show min (0 : Int).toNat IntKind.u64.bits = 0 from rfl, u64C]
  simp only [Int.pow_zero, Int.mul_one, Int.ediv_one]
  omega
theorem xor_twice (a b : Int) (ha : 0 ≤ a ∧ a < 18446744073709551616) (hb : 0 ≤ b ∧ b < 18446744073709551616) : Go.bits .xor .u64 (Go.bits .xor .u64 a b) b = a := by
  obtain ⟨x, rfl⟩ := Int.eq_ofNat_of_zero_le ha.1
  obtain ⟨y, rfl⟩ := Int.eq_ofNat_of_zero_le hb.1
  have hx : x ^^^ y < 2 ^ 64 := Nat.xor_lt_two_pow (by omega) (by omega)
  rw [bits_xor64 x y (by omega) (by omega), bits_xor64 _ y (by omega) (by omega), Nat.xor_assoc, Nat.xor_self, Nat.xor_zero]
theorem aluInverse_true (a b : Int) (ha : 0 ≤ a ∧ a ≤ 18446744073709551615) (hb : 0 ≤ b ∧ b ≤ 18446744073709551615) : slotcodelaw06_AluInverse.f a b = some true := by
  unfold slotcodelaw06_AluInverse.f slotcodelaw06_alive.f
  simp only [do_add, do_sub, do_xor, do_neg, Option.bind_some, if_true]
  have e1 : IntKind.u64.wrap (IntKind.u64.wrap (a + b) - b) = a := by rw [u64C, u64C]; omega
  have e3 : shr .u64 (shl .u64 (IntKind.u64.wrap (-a)) 0) 0 = IntKind.u64.wrap (0 - a) := by
    rw [low_all _ (by rw [u64C]; omega) (by rw [u64C]; omega), Int.zero_sub]
  rw [e1, xor_twice a b ⟨ha.1, by omega⟩ ⟨hb.1, by omega⟩, e3]
  simp
end Go.Proofs.YtnllfppkfdnjpabDoor.Q
namespace Go.Proofs.YtnllfppkfdnjpabDoor.L
open Go Go.RowKit Go.Proofs.YtnllfppkfdnjpabDoor.Ops Go.Proofs.YtnllfppkfdnjpabDoor.Q Go.Proofs.YtnllfppkfdnjpabDoorW.PrintWords

theorem aluInverse_walk (a : Int) (ha : (Lit.int .u64 a).wf = true) (b : Int) (hb : (Lit.int .u64 b).wf = true) (w : World) (hG : GG w) :
    Calls Tryd.prog 8 #[.int .u64 a, .int .u64 b] w fun e w' => e = .returned (.bool true) ∧ Below w.heap.size w w' :=
  slotcodelaw06_AluInverse.calls a b true w (aluInverse_true a b (bounds_u64 ha) (bounds_u64 hb)) hG
end Go.Proofs.YtnllfppkfdnjpabDoor.L
