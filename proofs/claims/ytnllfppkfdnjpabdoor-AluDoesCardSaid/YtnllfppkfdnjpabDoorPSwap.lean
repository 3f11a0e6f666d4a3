/- The bytes of a number in reverse order: plain laws. -/
import Derived.Test.YtnllfppkfdnjpabDoorPAlu
import Derived.Laws.Bits64b
import Derived.Test.YtnllfppkfdnjpabDoorJx1h
namespace Go.Proofs.YtnllfppkfdnjpabDoor.Q
open Go Go.RowKit Go.Proofs.YtnllfppkfdnjpabDoor.Ops Go.Proofs.YtnllfppkfdnjpabDoorW.PrintWords

theorem and_split (n X Y : Nat) : X &&& Y = 2 ^ n * (X / 2 ^ n &&& Y / 2 ^ n) + (X % 2 ^ n &&& Y % 2 ^ n) := by
  rw [← Nat.and_div_two_pow, ← Nat.and_mod_two_pow, Nat.div_add_mod]
theorem or_split (n X Y : Nat) : X ||| Y = 2 ^ n * (X / 2 ^ n ||| Y / 2 ^ n) + (X % 2 ^ n ||| Y % 2 ^ n) := by
  rw [← Nat.or_div_two_pow, ← Nat.or_mod_two_pow, Nat.div_add_mod]
theorem and255 (x : Nat) : x &&& 255 = x % 256 := Nat.and_two_pow_sub_one_eq_mod x 8
theorem and65535 (x : Nat) : x &&& 65535 = x % 65536 := Nat.and_two_pow_sub_one_eq_mod x 16
theorem or_low (i p q : Nat) (h : p < 2 ^ i) : p ||| 2 ^ i * q = 2 ^ i * q + p := by
  rw [Nat.or_comm, Nat.two_pow_add_eq_or_of_lt h]
/-- The bytes with even places. -/
theorem mask8 (x : Nat) (_ : x < 18446744073709551616) : x &&& 71777214294589695 = x % 256 + 65536 * (x / 65536 % 256) + 4294967296 * (x / 4294967296 % 256) + 281474976710656 * (x / 281474976710656 % 256) := by
  rw [and_split 48 x, and_split 32 (x % 2 ^ 48), and_split 16 (x % 2 ^ 48 % 2 ^ 32)]
  simp only [Nat.reducePow, Nat.reduceDiv, Nat.reduceMod, and255]
  omega
theorem mask16 (x : Nat) (_ : x < 18446744073709551616) : x &&& 281470681808895 = x % 65536 + 4294967296 * (x / 4294967296 % 65536) := by
  rw [and_split 32 x]
  simp only [Nat.reducePow, Nat.reduceDiv, Nat.reduceMod, and65535]
  omega
theorem or8 (p q : Nat) (h : p < 256) : p ||| 256 * q = 256 * q + p := or_low 8 p q h
theorem or16 (p q : Nat) (h : p < 65536) : p ||| 65536 * q = 65536 * q + p := or_low 16 p q h
theorem or32 (p q : Nat) (h : p < 4294967296) : p ||| 4294967296 * q = 4294967296 * q + p := or_low 32 p q h
theorem or_bytes (p0 p1 p2 p3 q0 q1 q2 q3 : Nat) (h0 : p0 < 256) (h1 : p1 < 256) (h2 : p2 < 256) (h3 : p3 < 256) (k0 : q0 < 256) (k1 : q1 < 256) (k2 : q2 < 256) (_ : q3 < 256) :
    (p0 + 65536 * p1 + 4294967296 * p2 + 281474976710656 * p3) ||| (256 * q0 + 16777216 * q1 + 1099511627776 * q2 + 72057594037927936 * q3) = p0 + 256 * q0 + 65536 * p1 + 16777216 * q1 + 4294967296 * p2 + 1099511627776 * q2 + 281474976710656 * p3 + 72057594037927936 * q3 := by
  obtain ⟨P, hP⟩ : ∃ P, P = p0 + 65536 * p1 + 4294967296 * p2 + 281474976710656 * p3 := ⟨_, rfl⟩
  obtain ⟨Q, hQ⟩ : ∃ Q, Q = 256 * q0 + 16777216 * q1 + 1099511627776 * q2 + 72057594037927936 * q3 := ⟨_, rfl⟩
  rw [← hP, ← hQ, or_split 48 P, or_split 32 (P % 2 ^ 48), or_split 16 (P % 2 ^ 48 % 2 ^ 32)]
  simp only [Nat.reducePow]
  rw [show P / 281474976710656 = p3 by omega, show Q / 281474976710656 = 256 * q3 by omega, show P % 281474976710656 / 4294967296 = p2 by omega, show Q % 281474976710656 / 4294967296 = 256 * q2 by omega,
    show P % 281474976710656 % 4294967296 / 65536 = p1 by omega, show Q % 281474976710656 % 4294967296 / 65536 = 256 * q1 by omega, show P % 281474976710656 % 4294967296 % 65536 = p0 by omega, show Q % 281474976710656 % 4294967296 % 65536 = 256 * q0 by omega,
    or8 p3 q3 h3, or8 p2 q2 h2, or8 p1 q1 h1, or8 p0 q0 h0]
  omega
theorem or_pairs (p0 p1 q0 q1 : Nat) (h0 : p0 < 65536) (h1 : p1 < 65536) (k0 : q0 < 65536) (_ : q1 < 65536) : (p0 + 4294967296 * p1) ||| (65536 * q0 + 281474976710656 * q1) = p0 + 65536 * q0 + 4294967296 * p1 + 281474976710656 * q1 := by
  obtain ⟨P, hP⟩ : ∃ P, P = p0 + 4294967296 * p1 := ⟨_, rfl⟩
  obtain ⟨Q, hQ⟩ : ∃ Q, Q = 65536 * q0 + 281474976710656 * q1 := ⟨_, rfl⟩
  rw [← hP, ← hQ, or_split 32 P]
  simp only [Nat.reducePow]
  rw [show P / 4294967296 = p1 by omega, show Q / 4294967296 = 65536 * q1 by omega, show P % 4294967296 = p0 by omega, show Q % 4294967296 = 65536 * q0 by omega, or16 p1 q1 h1, or16 p0 q0 h0]
  omega
/-- The bytes of a number in reverse order. -/
def revN (b0 b1 b2 b3 b4 b5 b6 b7 : Nat) : Nat := b7 + 256 * b6 + 65536 * b5 + 16777216 * b4 + 4294967296 * b3 + 1099511627776 * b2 + 281474976710656 * b1 + 72057594037927936 * b0
set_option maxHeartbeats 4000000 in
theorem rev_bytes (b0 b1 b2 b3 b4 b5 b6 b7 : Nat) (h0 : b0 < 256) (h1 : b1 < 256) (h2 : b2 < 256) (h3 : b3 < 256) (h4 : b4 < 256) (h5 : b5 < 256) (h6 : b6 < 256) (h7 : b7 < 256) : bits_ReverseBytes64.f ((b0 + 256 * b1 + 65536 * b2 + 16777216 * b3 + 4294967296 * b4 + 1099511627776 * b5 + 281474976710656 * b6 + 72057594037927936 * b7 : Nat) : Int) = some ((revN b0 b1 b2 b3 b4 b5 b6 b7 : Nat) : Int) := by
  have e1 : Go.bits .and .u64 (((b0 + 256 * b1 + 65536 * b2 + 16777216 * b3 + 4294967296 * b4 + 1099511627776 * b5 + 281474976710656 * b6 + 72057594037927936 * b7 : Nat) : Int) / 256) 71777214294589695 = ((b1 + 65536 * b3 + 4294967296 * b5 + 281474976710656 * b7 : Nat) : Int) := by
    rw [show (((b0 + 256 * b1 + 65536 * b2 + 16777216 * b3 + 4294967296 * b4 + 1099511627776 * b5 + 281474976710656 * b6 + 72057594037927936 * b7 : Nat) : Int) / 256 : Int) = ((b1 + 256 * b2 + 65536 * b3 + 16777216 * b4 + 4294967296 * b5 + 1099511627776 * b6 + 281474976710656 * b7 : Nat) : Int) by omega, show (71777214294589695 : Int) = ((71777214294589695 : Nat) : Int) from rfl, bits_and_u64_nat _ _ (by omega) (by omega), mask8 _ (by omega)]
    congr 1
    omega
  have e2 : Go.bits .and .u64 ((b0 + 256 * b1 + 65536 * b2 + 16777216 * b3 + 4294967296 * b4 + 1099511627776 * b5 + 281474976710656 * b6 + 72057594037927936 * b7 : Nat) : Int) 71777214294589695 = ((b0 + 65536 * b2 + 4294967296 * b4 + 281474976710656 * b6 : Nat) : Int) := by
    rw [show (71777214294589695 : Int) = ((71777214294589695 : Nat) : Int) from rfl, bits_and_u64_nat _ _ (by omega) (by omega), mask8 _ (by omega)]
    congr 1
    omega
  have e3 : IntKind.u64.wrap (((b0 + 65536 * b2 + 4294967296 * b4 + 281474976710656 * b6 : Nat) : Int) * 256) = ((256 * b0 + 16777216 * b2 + 1099511627776 * b4 + 72057594037927936 * b6 : Nat) : Int) := by
    rw [u64C]
    omega
  have e4 : Go.bits .or .u64 ((b1 + 65536 * b3 + 4294967296 * b5 + 281474976710656 * b7 : Nat) : Int) ((256 * b0 + 16777216 * b2 + 1099511627776 * b4 + 72057594037927936 * b6 : Nat) : Int) = ((b1 + 256 * b0 + 65536 * b3 + 16777216 * b2 + 4294967296 * b5 + 1099511627776 * b4 + 281474976710656 * b7 + 72057594037927936 * b6 : Nat) : Int) := by
    rw [bits_or_u64_nat _ _ (by omega) (by omega), or_bytes _ _ _ _ _ _ _ _ h1 h3 h5 h7 h0 h2 h4 h6]
  have e5 : Go.bits .and .u64 (((b1 + 256 * b0 + 65536 * b3 + 16777216 * b2 + 4294967296 * b5 + 1099511627776 * b4 + 281474976710656 * b7 + 72057594037927936 * b6 : Nat) : Int) / 65536) 281470681808895 = ((b3 + 256 * b2 + 4294967296 * b7 + 1099511627776 * b6 : Nat) : Int) := by
    rw [show (((b1 + 256 * b0 + 65536 * b3 + 16777216 * b2 + 4294967296 * b5 + 1099511627776 * b4 + 281474976710656 * b7 + 72057594037927936 * b6 : Nat) : Int) / 65536 : Int) = ((b3 + 256 * b2 + 65536 * b5 + 16777216 * b4 + 4294967296 * b7 + 1099511627776 * b6 : Nat) : Int) by omega, show (281470681808895 : Int) = ((281470681808895 : Nat) : Int) from rfl, bits_and_u64_nat _ _ (by omega) (by omega), mask16 _ (by omega)]
    congr 1
    omega
  have e6 : Go.bits .and .u64 ((b1 + 256 * b0 + 65536 * b3 + 16777216 * b2 + 4294967296 * b5 + 1099511627776 * b4 + 281474976710656 * b7 + 72057594037927936 * b6 : Nat) : Int) 281470681808895 = ((b1 + 256 * b0 + 4294967296 * b5 + 1099511627776 * b4 : Nat) : Int) := by
    rw [show (281470681808895 : Int) = ((281470681808895 : Nat) : Int) from rfl, bits_and_u64_nat _ _ (by omega) (by omega), mask16 _ (by omega)]
    congr 1
    omega
  have e7 : IntKind.u64.wrap (((b1 + 256 * b0 + 4294967296 * b5 + 1099511627776 * b4 : Nat) : Int) * 65536) = ((65536 * b1 + 16777216 * b0 + 281474976710656 * b5 + 72057594037927936 * b4 : Nat) : Int) := by
    rw [u64C]
    omega
  have e8 : Go.bits .or .u64 ((b3 + 256 * b2 + 4294967296 * b7 + 1099511627776 * b6 : Nat) : Int) ((65536 * b1 + 16777216 * b0 + 281474976710656 * b5 + 72057594037927936 * b4 : Nat) : Int) = ((b3 + 256 * b2 + 65536 * b1 + 16777216 * b0 + 4294967296 * b7 + 1099511627776 * b6 + 281474976710656 * b5 + 72057594037927936 * b4 : Nat) : Int) := by
    rw [bits_or_u64_nat _ _ (by omega) (by omega)]
    have k := or_pairs (b3 + 256 * b2) (b7 + 256 * b6) (b1 + 256 * b0) (b5 + 256 * b4) (by omega) (by omega) (by omega) (by omega)
    rw [show (b3 + 256 * b2 + 4294967296 * b7 + 1099511627776 * b6) = (b3 + 256 * b2) + 4294967296 * (b7 + 256 * b6) by omega, show (65536 * b1 + 16777216 * b0 + 281474976710656 * b5 + 72057594037927936 * b4) = 65536 * (b1 + 256 * b0) + 281474976710656 * (b5 + 256 * b4) by omega, k]
    congr 1
    omega
  have e9 : (((b3 + 256 * b2 + 65536 * b1 + 16777216 * b0 + 4294967296 * b7 + 1099511627776 * b6 + 281474976710656 * b5 + 72057594037927936 * b4 : Nat) : Int) / 4294967296 : Int) = ((b7 + 256 * b6 + 65536 * b5 + 16777216 * b4 : Nat) : Int) := by omega
  have e10 : IntKind.u64.wrap (((b3 + 256 * b2 + 65536 * b1 + 16777216 * b0 + 4294967296 * b7 + 1099511627776 * b6 + 281474976710656 * b5 + 72057594037927936 * b4 : Nat) : Int) * 4294967296) = ((4294967296 * b3 + 1099511627776 * b2 + 281474976710656 * b1 + 72057594037927936 * b0 : Nat) : Int) := by
    rw [u64C]
    omega
  have e11 : Go.bits .or .u64 ((b7 + 256 * b6 + 65536 * b5 + 16777216 * b4 : Nat) : Int) ((4294967296 * b3 + 1099511627776 * b2 + 281474976710656 * b1 + 72057594037927936 * b0 : Nat) : Int) = ((revN b0 b1 b2 b3 b4 b5 b6 b7 : Nat) : Int) := by
    rw [bits_or_u64_nat _ _ (by omega) (by omega)]
    have k := or32 (b7 + 256 * b6 + 65536 * b5 + 16777216 * b4) (b3 + 256 * b2 + 65536 * b1 + 16777216 * b0) (by omega)
    rw [show (4294967296 * b3 + 1099511627776 * b2 + 281474976710656 * b1 + 72057594037927936 * b0) = 4294967296 * (b3 + 256 * b2 + 65536 * b1 + 16777216 * b0) by omega, k]
    congr 1
    unfold revN
    omega
  unfold bits_ReverseBytes64.f
  rw [e1, e2, e3, e4, e5, e6, e7, e8, e9, e10, e11]
end Go.Proofs.YtnllfppkfdnjpabDoor.Q
