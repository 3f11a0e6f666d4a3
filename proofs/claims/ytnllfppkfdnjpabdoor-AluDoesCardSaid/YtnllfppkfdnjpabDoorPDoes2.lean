/- The fourteen operations, as the program and as the reference compute them: plain laws. -/
import Derived.Test.YtnllfppkfdnjpabDoorPDoes
namespace Go.Proofs.YtnllfppkfdnjpabDoor.Q
open Go Go.RowKit Go.Proofs.YtnllfppkfdnjpabDoor.Ops Go.Proofs.YtnllfppkfdnjpabDoorW.PrintWords

theorem and63 (B : Int) (h : 0 ≤ B ∧ B < 18446744073709551616) : Go.bits .and .u64 B (IntKind.u64.wrap (wrap64 (64 - 1))) = B % 64 := by
  obtain ⟨y, rfl⟩ := Int.eq_ofNat_of_zero_le h.1
  rw [show IntKind.u64.wrap (wrap64 (64 - 1)) = ((63 : Nat) : Int) from by kernel_rfl, bits_and_u64_nat y 63 (by omega) (by omega), show y &&& 63 = y % 64 from Nat.and_two_pow_sub_one_eq_mod y 6]
  rfl
theorem and31 (b : Int) (h : 0 ≤ b ∧ b < 4294967296) : Go.bits .and .u32 b (wrap64 (32 - 1) % 4294967296) = b % 32 := by
  obtain ⟨y, rfl⟩ := Int.eq_ofNat_of_zero_le h.1
  rw [show wrap64 (32 - 1) % 4294967296 = ((31 : Nat) : Int) from by kernel_rfl, and32b y 31 (by omega) (by omega), show y &&& 31 = y % 32 from Nat.and_two_pow_sub_one_eq_mod y 5]
  rfl
theorem count_ref {B n : Int} (hB : 0 ≤ B) (h0 : 0 < n) (h1 : n ≤ 64) : wrap64 (Int.tmod B (IntKind.u64.wrap n)) = B % n := by
  have e : IntKind.u64.wrap n = n := by rw [u64C]; omega
  have h2 := Int.emod_nonneg B (show n ≠ 0 by omega)
  have h3 := Int.emod_lt_of_pos B h0
  rw [e, Int.tmod_eq_emod_of_nonneg hB]
  unfold wrap64
  omega
theorem shl_f {n : Int} (hn : n = 64 ∨ n = 32) (m : Nat) (hm : m < 64) (a : Int) (ha : 0 ≤ a ∧ a < 18446744073709551616) : slotcoderef06_shift.f 200 0 a (m : Int) n = some (a * 2 ^ m % 18446744073709551616) := by
  have h := shl_loop hn (m : Int) (by omega) m 200 a ha.1 (by omega) (by omega)
  rw [Int.sub_self] at h
  unfold slotcoderef06_shift.f
  rw [h]
  split
  · rename_i h0; subst h0; congr 1; rw [Int.pow_zero, Int.mul_one]; omega
  · rfl
theorem shr_f {n : Int} (hn : n = 64 ∨ n = 32) (m : Nat) (hm : m < 64) (a : Int) (ha : 0 ≤ a ∧ a < 2 * hb n) : slotcoderef06_shift.f 200 1 a (m : Int) n = some (a / 2 ^ m) := by
  have h := shr_loop hn (m : Int) (by omega) m 200 a ha.1 ha.2 (by omega) (by omega)
  rw [Int.sub_self] at h
  exact h
theorem sar_f {n : Int} (hn : n = 64 ∨ n = 32) (m : Nat) (hm : m < 64) (S : Int) (h1 : -hb n ≤ S) (h2 : S < hb n) : slotcoderef06_shift.f 200 2 (S % (2 * hb n)) (m : Int) n = some (S / 2 ^ m % (2 * hb n)) := by
  have h := sar_loop hn (m : Int) (by omega) m 200 S h1 h2 (by omega) (by omega)
  rw [Int.sub_self] at h
  exact h
theorem shrU (x : Int) (m : Nat) (h : m ≤ 64) : shr .u64 x m = x / 2 ^ m := by
  unfold shr
  rw [Int.toNat_natCast, show IntKind.u64.bits = 64 from rfl, Nat.min_eq_left h]

theorem fourteen {i : Int} (h : 0 ≤ i ∧ i ≤ 13) : i = 0 ∨ i = 1 ∨ i = 2 ∨ i = 3 ∨ i = 4 ∨ i = 5 ∨ i = 6 ∨ i = 7 ∨ i = 8 ∨ i = 9 ∨ i = 10 ∨ i = 11 ∨ i = 12 ∨ i = 13 := by omega
theorem b64 {i A B : Int} (hi : 0 ≤ i ∧ i ≤ 13) (hA : 0 ≤ A ∧ A < 18446744073709551616) (hB : 0 ≤ B ∧ B < 18446744073709551616) : ∃ q, slotcoderef06_binary.f 200 i A B 64 = some q ∧ 0 ≤ q ∧ c64 i A B 64 = some q := by
  have eA := numExt (.inr (.inr (.inr rfl))) A hA
  have eB := numExt (.inr (.inr (.inr rfl))) B hB
  have hs : alu_signed_uint64.f A B 64 = some (IntKind.u64.wrap (divG (sg 64 A) (sg 64 B)).1, IntKind.u64.wrap (divG (sg 64 A) (sg 64 B)).2) := by
    unfold alu_signed_uint64.f
    rw [eA, eB]
    simp only [Option.bind_some, divide_f]
  have hc : wrap64 (Int.tmod B (IntKind.u64.wrap 64)) = B % 64 := count_ref hB.1 (by omega) (by omega)
  have hw : ¬ IntKind.u64.wrap 64 = 0 := by rw [u64C]; omega
  have hw0 : ∀ x, 0 ≤ IntKind.u64.wrap x := fun x => by rw [u64C]; omega
  obtain ⟨m, hm⟩ := Int.eq_ofNat_of_zero_le (show 0 ≤ B % 64 by omega)
  have hm64 : m < 64 := by omega
  unfold slotcoderef06_binary.f c64
  rw [refExt (.inr (.inr (.inr rfl))) A hA 200 (by omega), refExt (.inr (.inr (.inr rfl))) B hB 200 (by omega)]
  simp only [Option.bind_some]
  rw [rdivide_f (sg_range (.inr (.inr (.inr rfl))) A) (sg_range (.inr (.inr (.inr rfl))) B)]
  simp only [Option.bind_some, hc, if_neg hw, hm]
  rcases fourteen hi with rfl | rfl | rfl | rfl | rfl | rfl | rfl | rfl | rfl | rfl | rfl | rfl | rfl | rfl
  all_goals simp only [Int.reduceEq, if_false, if_true]
  · exact ⟨_, rfl, hw0 _, rfl⟩
  · exact ⟨_, rfl, hw0 _, rfl⟩
  · exact ⟨_, rfl, hw0 _, rfl⟩
  · unfold alu_quotient_uint64.f
    by_cases h0 : B = 0
    · rw [if_pos h0]; exact ⟨_, rfl, by omega, rfl⟩
    · rw [if_neg h0]; exact ⟨_, rfl, hw0 _, rfl⟩
  · obtain ⟨x, rfl⟩ := Int.eq_ofNat_of_zero_le hA.1
    obtain ⟨y, rfl⟩ := Int.eq_ofNat_of_zero_le hB.1
    rw [or_f x y 200 (by omega) (by omega) (by omega)]
    unfold alu_binaries_uint64_4.f
    rw [bits_or_u64_nat x y (by omega) (by omega)]
    exact ⟨_, rfl, by omega, rfl⟩
  · obtain ⟨x, rfl⟩ := Int.eq_ofNat_of_zero_le hA.1
    obtain ⟨y, rfl⟩ := Int.eq_ofNat_of_zero_le hB.1
    rw [and_f x y 200 (by omega) (by omega) (by omega)]
    unfold alu_binaries_uint64_5.f
    rw [bits_and_u64_nat x y (by omega) (by omega)]
    exact ⟨_, rfl, by omega, rfl⟩
  · rw [shl_f (.inl rfl) m hm64 A hA]
    unfold alu_binaries_uint64_6.f
    rw [and63 B hB, hm, if_pos (by omega), shlU A m m (2 ^ m) (by omega) rfl rfl]
    exact ⟨_, rfl, Int.emod_nonneg _ (by omega), rfl⟩
  · rw [shr_f (.inl rfl) m hm64 A ⟨hA.1, by rw [show hb 64 = 9223372036854775808 from rfl]; omega⟩]
    unfold alu_binaries_uint64_7.f
    rw [and63 B hB, hm, if_pos (by omega), shrU A m (by omega)]
    exact ⟨_, rfl, Int.ediv_nonneg hA.1 (Int.le_of_lt (Int.pow_pos (by omega))), rfl⟩
  · unfold alu_remainder_uint64.f
    by_cases h0 : B = 0
    · rw [if_pos h0]; exact ⟨_, rfl, hA.1, rfl⟩
    · rw [if_neg h0]; exact ⟨_, rfl, Int.tmod_nonneg B hA.1, rfl⟩
  · obtain ⟨x, rfl⟩ := Int.eq_ofNat_of_zero_le hA.1
    obtain ⟨y, rfl⟩ := Int.eq_ofNat_of_zero_le hB.1
    rw [xor_f x y 200 (by omega) (by omega) (by omega)]
    unfold alu_binaries_uint64_8.f
    rw [bits_xor64 x y (by omega) (by omega)]
    exact ⟨_, rfl, by omega, rfl⟩
  · exact ⟨_, rfl, hB.1, rfl⟩
  · have hS : -hb 64 ≤ sg 64 A ∧ sg 64 A < hb 64 := by
      rw [show hb 64 = 9223372036854775808 from rfl]
      unfold sg
      rw [show pw 64 = 18446744073709551616 from rfl]
      split <;> omega
    have hmod : sg 64 A % (2 * hb 64) = A := by
      rw [show hb 64 = 9223372036854775808 from rfl]
      unfold sg
      rw [show pw 64 = 18446744073709551616 from rfl]
      split <;> omega
    have h := sar_f (.inl rfl) m hm64 (sg 64 A) hS.1 hS.2
    rw [hmod] at h
    rw [h]
    unfold alu_binaries_uint64_10.f
    rw [eA]
    simp only [Option.bind_some]
    rw [and63 B hB, hm, if_pos (by omega), shrI _ m m (2 ^ m) (by omega) rfl rfl, u64C]
    exact ⟨_, rfl, Int.emod_nonneg _ (by rw [show hb 64 = 9223372036854775808 from rfl]; omega), rfl⟩
  · unfold alu_binaries_uint64_11.f
    rw [hs]
    exact ⟨_, rfl, hw0 _, rfl⟩
  · unfold alu_binaries_uint64_12.f
    rw [hs]
    exact ⟨_, rfl, hw0 _, rfl⟩
theorem shlU32 (x : Int) (m : Nat) (h : m ≤ 32) : shl .u32 x m = x * 2 ^ m % 4294967296 := by
  unfold shl
  rw [Int.toNat_natCast, show IntKind.u32.bits = 32 from rfl, Nat.min_eq_left h, u32C]
theorem shrU32 (x : Int) (m : Nat) (h : m ≤ 32) : shr .u32 x m = x / 2 ^ m := by
  unfold shr
  rw [Int.toNat_natCast, show IntKind.u32.bits = 32 from rfl, Nat.min_eq_left h]
theorem cut32 (x : Int) : IntKind.u64.wrap x % 4294967296 = x % 4294967296 := by rw [u64C]; omega
theorem b32 {i a b : Int} (hi : 0 ≤ i ∧ i ≤ 13) (ha : 0 ≤ a ∧ a < 4294967296) (hb' : 0 ≤ b ∧ b < 4294967296) : ∃ q, slotcoderef06_binary.f 200 i a b 32 = some q ∧ 0 ≤ q ∧ c32 i a b 32 = some (q % 4294967296) := by
  have hA : 0 ≤ a ∧ a < 18446744073709551616 := by omega
  have hB : 0 ≤ b ∧ b < 18446744073709551616 := by omega
  have wa : IntKind.u64.wrap a = a := by rw [u64C]; omega
  have wb : IntKind.u64.wrap b = b := by rw [u64C]; omega
  have eA := numExt (.inr (.inr (.inl rfl))) a hA
  have eB := numExt (.inr (.inr (.inl rfl))) b hB
  have hs : alu_signed_uint32.f a b 32 = some ((divG (sg 32 a) (sg 32 b)).1 % 4294967296, (divG (sg 32 a) (sg 32 b)).2 % 4294967296) := by
    unfold alu_signed_uint32.f
    rw [wa, wb, eA, eB]
    simp only [Option.bind_some, divide_f]
  have hc : wrap64 (Int.tmod b (IntKind.u64.wrap 32)) = b % 32 := count_ref hB.1 (by omega) (by omega)
  have hw : ¬ IntKind.u64.wrap 32 = 0 := by rw [u64C]; omega
  obtain ⟨m, hm⟩ := Int.eq_ofNat_of_zero_le (show 0 ≤ b % 32 by omega)
  have hm32 : m < 32 := by omega
  have hw0 : ∀ x, 0 ≤ IntKind.u64.wrap x := fun x => by rw [u64C]; omega
  unfold slotcoderef06_binary.f c32
  rw [refExt (.inr (.inr (.inl rfl))) a hA 200 (by omega), refExt (.inr (.inr (.inl rfl))) b hB 200 (by omega)]
  simp only [Option.bind_some]
  rw [rdivide_f (sg_range (.inr (.inr (.inl rfl))) a) (sg_range (.inr (.inr (.inl rfl))) b)]
  simp only [Option.bind_some, hc, if_neg hw, hm]
  rcases fourteen hi with rfl | rfl | rfl | rfl | rfl | rfl | rfl | rfl | rfl | rfl | rfl | rfl | rfl | rfl
  all_goals simp only [Int.reduceEq, if_false, if_true]
  · exact ⟨_, rfl, hw0 _, by rw [cut32]; rfl⟩
  · exact ⟨_, rfl, hw0 _, by rw [cut32]; rfl⟩
  · exact ⟨_, rfl, hw0 _, by rw [cut32]; rfl⟩
  · unfold alu_quotient_uint32.f
    by_cases h0 : b = 0
    · rw [if_pos h0, if_pos h0]; exact ⟨_, rfl, by omega, rfl⟩
    · rw [if_neg h0, if_neg h0]; exact ⟨_, rfl, hw0 _, by rw [cut32]⟩
  · obtain ⟨x, rfl⟩ := Int.eq_ofNat_of_zero_le ha.1
    obtain ⟨y, rfl⟩ := Int.eq_ofNat_of_zero_le hb'.1
    have hx : x ||| y < 2 ^ 32 := Nat.or_lt_two_pow (by omega) (by omega)
    rw [or_f x y 200 (by omega) (by omega) (by omega)]
    unfold alu_binaries_uint32_4.f
    rw [or32b x y (by omega) (by omega)]
    exact ⟨_, rfl, by omega, by congr 1; omega⟩
  · obtain ⟨x, rfl⟩ := Int.eq_ofNat_of_zero_le ha.1
    obtain ⟨y, rfl⟩ := Int.eq_ofNat_of_zero_le hb'.1
    have hx : x &&& y < 2 ^ 32 := Nat.and_lt_two_pow _ (by omega)
    rw [and_f x y 200 (by omega) (by omega) (by omega)]
    unfold alu_binaries_uint32_5.f
    rw [and32b x y (by omega) (by omega)]
    exact ⟨_, rfl, by omega, by congr 1; omega⟩
  · rw [shl_f (.inr rfl) m (by omega) a hA]
    unfold alu_binaries_uint32_6.f
    rw [and31 b hb', hm, if_pos (by omega), shlU32 a m (by omega)]
    exact ⟨_, rfl, Int.emod_nonneg _ (by omega), by rw [Int.emod_emod_of_dvd _ (by decide)]⟩
  · rw [shr_f (.inr rfl) m (by omega) a ⟨ha.1, by rw [show hb 32 = 2147483648 from rfl]; omega⟩]
    unfold alu_binaries_uint32_7.f
    rw [and31 b hb', hm, if_pos (by omega), shrU32 a m (by omega)]
    have h0 : 0 ≤ a / 2 ^ m := Int.ediv_nonneg ha.1 (Int.le_of_lt (Int.pow_pos (by omega)))
    have h1 : a / 2 ^ m ≤ a := Int.ediv_le_self _ ha.1
    exact ⟨_, rfl, h0, by congr 1; omega⟩
  · unfold alu_remainder_uint32.f
    by_cases h0 : b = 0
    · rw [if_pos h0]; exact ⟨_, rfl, ha.1, by congr 1; omega⟩
    · rw [if_neg h0]
      have h1 := Int.tmod_nonneg b ha.1
      have h2 := tmod_le' b ha.1
      exact ⟨_, rfl, h1, by congr 1; omega⟩
  · obtain ⟨x, rfl⟩ := Int.eq_ofNat_of_zero_le ha.1
    obtain ⟨y, rfl⟩ := Int.eq_ofNat_of_zero_le hb'.1
    have hx : x ^^^ y < 2 ^ 32 := Nat.xor_lt_two_pow (by omega) (by omega)
    rw [xor_f x y 200 (by omega) (by omega) (by omega)]
    unfold alu_binaries_uint32_8.f
    rw [xor32b x y (by omega) (by omega)]
    exact ⟨_, rfl, by omega, by congr 1; omega⟩
  · exact ⟨_, rfl, hb'.1, by unfold alu_binaries_uint32_9.f; congr 1; omega⟩
  · have hS : -hb 32 ≤ sg 32 a ∧ sg 32 a < hb 32 := by
      rw [show hb 32 = 2147483648 from rfl]
      unfold sg
      rw [show pw 32 = 4294967296 from rfl]
      split <;> omega
    have hmod : sg 32 a % (2 * hb 32) = a := by
      rw [show hb 32 = 2147483648 from rfl]
      unfold sg
      rw [show pw 32 = 4294967296 from rfl]
      split <;> omega
    have h := sar_f (.inr rfl) m (by omega) (sg 32 a) hS.1 hS.2
    rw [hmod] at h
    rw [h]
    unfold alu_binaries_uint32_10.f
    rw [wa, eA]
    simp only [Option.bind_some]
    rw [and31 b hb', hm, if_pos (by omega), shrI _ m m (2 ^ m) (by omega) rfl rfl, show 2 * hb 32 = 4294967296 from rfl]
    exact ⟨_, rfl, Int.emod_nonneg _ (by omega), by rw [Int.emod_emod_of_dvd _ (by decide)]⟩
  · unfold alu_binaries_uint32_11.f
    rw [hs]
    exact ⟨_, rfl, hw0 _, by rw [cut32]; rfl⟩
  · unfold alu_binaries_uint32_12.f
    rw [hs]
    exact ⟨_, rfl, hw0 _, by rw [cut32]; rfl⟩
end Go.Proofs.YtnllfppkfdnjpabDoor.Q
