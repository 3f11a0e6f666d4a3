/- What the program and the reference compute, operation by operation: plain laws. -/
import Derived.Test.YtnllfppkfdnjpabDoorPBits
import Derived.Test.YtnllfppkfdnjpabDoorPSwaps
import Derived.Test.YtnllfppkfdnjpabDoorPForm
import Derived.Test.YtnllfppkfdnjpabDoorJx2h
namespace Go.Proofs.YtnllfppkfdnjpabDoor.Q
open Go Go.RowKit Go.Proofs.YtnllfppkfdnjpabDoor.Ops Go.Proofs.YtnllfppkfdnjpabDoorW.PrintWords

/-! Numbers of some bits, extended. -/
theorem shlU (x : Int) (n m : Nat) (p : Int) (h : n ≤ 64) (hm : (n : Int) = m) (hp : (2 : Int) ^ n = p) : shl .u64 x m = x * p % 18446744073709551616 := by
  unfold shl
  rw [← hm, Int.toNat_natCast, show IntKind.u64.bits = 64 from rfl, Nat.min_eq_left h, hp, u64C]
theorem shrI (x : Int) (n m : Nat) (p : Int) (h : n ≤ 64) (hm : (n : Int) = m) (hp : (2 : Int) ^ n = p) : shr .i64 x m = x / p := by
  unfold shr
  rw [← hm, Int.toNat_natCast, show IntKind.i64.bits = 64 from rfl, Nat.min_eq_left h, hp]
/-- 2 to the number of bits. -/
def pw (n : Int) : Int := if n = 8 then 256 else if n = 16 then 65536 else if n = 32 then 4294967296 else 18446744073709551616
/-- The last bits as a signed number. -/
def sg (n x : Int) : Int := if x % pw n ≥ pw n / 2 then x % pw n - pw n else x % pw n
theorem numExt {n : Int} (hn : n = 8 ∨ n = 16 ∨ n = 32 ∨ n = 64) (x : Int) (_ : 0 ≤ x ∧ x < 18446744073709551616) : num_Extend.f x n = some (sg n x) := by
  unfold num_Extend.f num_known.f sg
  rcases hn with rfl | rfl | rfl | rfl
  · rw [show knownB 8 = true from rfl, show wrap64 (64 - 8) = ((56 : Nat) : Int) from by unfold wrap64; omega, shlU _ 56 56 72057594037927936 (by omega) rfl (by decide), shrI _ 56 56 72057594037927936 (by omega) rfl (by decide), show pw 8 = 256 from rfl]
    simp only [Option.bind_some, if_true]
    rw [if_pos (by omega)]
    congr 1
    unfold wrap64
    split <;> omega
  · rw [show knownB 16 = true from rfl, show wrap64 (64 - 16) = ((48 : Nat) : Int) from by unfold wrap64; omega, shlU _ 48 48 281474976710656 (by omega) rfl (by decide), shrI _ 48 48 281474976710656 (by omega) rfl (by decide), show pw 16 = 65536 from rfl]
    simp only [Option.bind_some, if_true]
    rw [if_pos (by omega)]
    congr 1
    unfold wrap64
    split <;> omega
  · rw [show knownB 32 = true from rfl, show wrap64 (64 - 32) = ((32 : Nat) : Int) from by unfold wrap64; omega, shlU _ 32 32 4294967296 (by omega) rfl (by decide), shrI _ 32 32 4294967296 (by omega) rfl (by decide), show pw 32 = 4294967296 from rfl]
    simp only [Option.bind_some, if_true]
    rw [if_pos (by omega)]
    congr 1
    unfold wrap64
    split <;> omega
  · rw [show knownB 64 = true from rfl, show wrap64 (64 - 64) = ((0 : Nat) : Int) from by unfold wrap64; omega, shlU _ 0 0 1 (by omega) rfl (by decide), shrI _ 0 0 1 (by omega) rfl (by decide), show pw 64 = 18446744073709551616 from rfl]
    simp only [Option.bind_some, if_true]
    rw [if_pos (by omega)]
    congr 1
    unfold wrap64
    split <;> omega
theorem refExt {n : Int} (hn : n = 8 ∨ n = 16 ∨ n = 32 ∨ n = 64) (x : Int) (h : 0 ≤ x ∧ x < 18446744073709551616) (k : Nat) (hk : 70 ≤ k) : slotcoderef01_Extend.f k x n = some (sg n x) := by
  unfold slotcoderef01_Extend.f sg
  have p8 : slotcoderef01_Power.f k 8 = some 256 := power_f k 8 hk (by omega)
  have p7 : slotcoderef01_Power.f k 7 = some 128 := power_f k 7 hk (by omega)
  have p16 : slotcoderef01_Power.f k 16 = some 65536 := power_f k 16 hk (by omega)
  have p15 : slotcoderef01_Power.f k 15 = some 32768 := power_f k 15 hk (by omega)
  have p32 : slotcoderef01_Power.f k 32 = some 4294967296 := power_f k 32 hk (by omega)
  have p31 : slotcoderef01_Power.f k 31 = some 2147483648 := power_f k 31 hk (by omega)
  rcases hn with rfl | rfl | rfl | rfl
  · rw [show slotcoderef01_Width.f 8 = some true from by kernel_rfl, show wrap64 (8 - 1) = 7 from by unfold wrap64; omega, p8, p7, show pw 8 = 256 from rfl]
    simp only [Option.bind_some, if_true, Int.reduceEq, if_false]
    rw [Int.tmod_eq_emod_of_nonneg h.1]
    unfold wrap64
    split <;> split <;> (try (congr 1; omega)) <;> omega
  · rw [show slotcoderef01_Width.f 16 = some true from by kernel_rfl, show wrap64 (16 - 1) = 15 from by unfold wrap64; omega, p16, p15, show pw 16 = 65536 from rfl]
    simp only [Option.bind_some, if_true, Int.reduceEq, if_false]
    rw [Int.tmod_eq_emod_of_nonneg h.1]
    unfold wrap64
    split <;> split <;> (try (congr 1; omega)) <;> omega
  · rw [show slotcoderef01_Width.f 32 = some true from by kernel_rfl, show wrap64 (32 - 1) = 31 from by unfold wrap64; omega, p32, p31, show pw 32 = 4294967296 from rfl]
    simp only [Option.bind_some, if_true, Int.reduceEq, if_false]
    rw [Int.tmod_eq_emod_of_nonneg h.1]
    unfold wrap64
    split <;> split <;> (try (congr 1; omega)) <;> omega
  · rw [show slotcoderef01_Width.f 64 = some true from by kernel_rfl, show pw 64 = 18446744073709551616 from rfl]
    simp only [Option.bind_some, if_true]
    unfold wrap64
    congr 1
    split <;> omega
theorem sg_range {n : Int} (hn : n = 8 ∨ n = 16 ∨ n = 32 ∨ n = 64) (x : Int) : -9223372036854775808 ≤ sg n x ∧ sg n x ≤ 9223372036854775807 := by
  unfold sg
  rcases hn with rfl | rfl | rfl | rfl
  · rw [show pw 8 = 256 from rfl]; split <;> omega
  · rw [show pw 16 = 65536 from rfl]; split <;> omega
  · rw [show pw 32 = 4294967296 from rfl]; split <;> omega
  · rw [show pw 64 = 18446744073709551616 from rfl]; split <;> omega

/-! The bits of 32. -/
theorem u32C (x : Int) : IntKind.u32.wrap x = x % 4294967296 := by
  simp [IntKind.wrap, IntKind.signed, IntKind.bits]
theorem toN32 (a : Nat) (h : a < 4294967296) : (BitVec.ofInt 32 (a : Int)).toNat = a := by
  rw [BitVec.ofInt_natCast, BitVec.toNat_ofNat]; exact Nat.mod_eq_of_lt (by omega)
theorem or32b (a b : Nat) (ha : a < 4294967296) (hb : b < 4294967296) : Go.bits .or .u32 (a : Int) (b : Int) = ((a ||| b : Nat) : Int) := by
  have hx : a ||| b < 2 ^ 32 := Nat.or_lt_two_pow (by omega) (by omega)
  show IntKind.u32.wrap ((BitVec.ofInt 32 (a : Int) ||| BitVec.ofInt 32 (b : Int)).toNat : Int) = _
  rw [BitVec.toNat_or, toN32 a ha, toN32 b hb, u32C]
  omega
theorem and32b (a b : Nat) (ha : a < 4294967296) (hb : b < 4294967296) : Go.bits .and .u32 (a : Int) (b : Int) = ((a &&& b : Nat) : Int) := by
  have hx : a &&& b < 2 ^ 32 := Nat.and_lt_two_pow _ (by omega)
  show IntKind.u32.wrap ((BitVec.ofInt 32 (a : Int) &&& BitVec.ofInt 32 (b : Int)).toNat : Int) = _
  rw [BitVec.toNat_and, toN32 a ha, toN32 b hb, u32C]
  omega
theorem xor32b (a b : Nat) (ha : a < 4294967296) (hb : b < 4294967296) : Go.bits .xor .u32 (a : Int) (b : Int) = ((a ^^^ b : Nat) : Int) := by
  have hx : a ^^^ b < 2 ^ 32 := Nat.xor_lt_two_pow (by omega) (by omega)
  show IntKind.u32.wrap ((BitVec.ofInt 32 (a : Int) ^^^ BitVec.ofInt 32 (b : Int)).toNat : Int) = _
  rw [BitVec.toNat_xor, toN32 a ha, toN32 b hb, u32C]
  omega
end Go.Proofs.YtnllfppkfdnjpabDoor.Q
