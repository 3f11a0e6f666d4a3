/- Division: plain laws. -/
import Derived.Test.YtnllfppkfdnjpabDoorJx1i
namespace Go.Proofs.YtnllfppkfdnjpabDoor.Q
open Go Go.RowKit Go.Proofs.YtnllfppkfdnjpabDoor.Ops Go.Proofs.YtnllfppkfdnjpabDoorW.PrintWords

theorem u64C (x : Int) : IntKind.u64.wrap x = x % 18446744073709551616 := by
  simp [IntKind.wrap, IntKind.signed, IntKind.bits]
theorem w64_congr {x y : Int} (h : x % 18446744073709551616 = y % 18446744073709551616) : wrap64 x = wrap64 y := by unfold wrap64; omega
/-- What both divisions give. -/
def divG (a b : Int) : Int × Int := if b = 0 then (0, a) else (wrap64 (Int.tdiv a b), Int.tmod a b)
theorem divide_f (a b : Int) : alu_Divide.f a b = some (divG a b) := by
  unfold alu_Divide.f divG
  by_cases h0 : b = 0
  · rw [if_pos h0, if_pos h0]
  · rw [if_neg h0, if_neg h0]
    by_cases h1 : b = -1
    · rw [if_pos h1, h1]
      congr 2
      · rw [Int.tdiv_neg, Int.tdiv_one]
      · rw [Int.tmod_neg, Int.tmod_one]
    · rw [if_neg h1]
theorem size_f (a : Int) (h1 : -9223372036854775808 ≤ a) (h2 : a ≤ 9223372036854775807) : slotcoderef06_size.f a = some (if a < 0 then -a else a) := by
  unfold slotcoderef06_size.f
  simp only [u64C]
  split
  · congr 1; omega
  · congr 1; omega
/-- The absolute quotient with the sign laid on. -/
theorem tdiv_sign (a b : Int) : Int.tdiv a b = if (decide (a < 0) != decide (b < 0)) = true then -(Int.tdiv (if a < 0 then -a else a) (if b < 0 then -b else b)) else Int.tdiv (if a < 0 then -a else a) (if b < 0 then -b else b) := by
  by_cases ha : a < 0 <;> by_cases hb : b < 0 <;> simp [ha, hb]
theorem tdiv_bound {a b : Int} (ha : 0 ≤ a ∧ a ≤ 9223372036854775808) (hb : 0 < b) : 0 ≤ Int.tdiv a b ∧ Int.tdiv a b ≤ 9223372036854775808 := by
  rw [Int.tdiv_eq_ediv_of_nonneg ha.1]
  exact ⟨Int.ediv_nonneg ha.1 (by omega), Int.le_trans (Int.ediv_le_self _ ha.1) ha.2⟩
theorem mod_part (a q b : Int) : (a % 18446744073709551616 - q * (b % 18446744073709551616) % 18446744073709551616) % 18446744073709551616 % 18446744073709551616 = (a - q * b) % 18446744073709551616 := by
  simp [Int.sub_emod, Int.mul_emod]
theorem mod_part2 (a q b : Int) : (a % 18446744073709551616 - q % 18446744073709551616 * (b % 18446744073709551616) % 18446744073709551616) % 18446744073709551616 % 18446744073709551616 = (a - q * b) % 18446744073709551616 := by
  simp [Int.sub_emod, Int.mul_emod]
theorem tmod_le' {a : Int} (b : Int) (h : 0 ≤ a) : Int.tmod a b ≤ a := by
  obtain ⟨n, rfl⟩ := Int.eq_ofNat_of_zero_le h
  rcases Int.le_total 0 b with hb | hb
  · obtain ⟨m, rfl⟩ := Int.eq_ofNat_of_zero_le hb
    exact Int.ofNat_le.2 (Nat.mod_le n m)
  · obtain ⟨m, hm⟩ := Int.eq_ofNat_of_zero_le (show 0 ≤ -b by omega)
    rw [show b = -(m : Int) by omega, Int.tmod_neg]
    exact Int.ofNat_le.2 (Nat.mod_le n m)
theorem tmod_in {a b : Int} (ha : -9223372036854775808 ≤ a ∧ a ≤ 9223372036854775807) : -9223372036854775808 ≤ Int.tmod a b ∧ Int.tmod a b ≤ 9223372036854775807 := by
  by_cases h : 0 ≤ a
  · have h1 := Int.tmod_nonneg b h
    have h2 : Int.tmod a b ≤ a := tmod_le' b h
    omega
  · have e : Int.tmod a b = -(Int.tmod (-a) b) := by rw [Int.neg_tmod, Int.neg_neg]
    have h1 := Int.tmod_nonneg b (show 0 ≤ -a by omega)
    have h2 : Int.tmod (-a) b ≤ -a := tmod_le' b (by omega)
    omega
theorem rdivide_f {a b : Int} (ha : -9223372036854775808 ≤ a ∧ a ≤ 9223372036854775807) (hb : -9223372036854775808 ≤ b ∧ b ≤ 9223372036854775807) : slotcoderef06_Divide.f a b = some (divG a b) := by
  unfold slotcoderef06_Divide.f divG
  by_cases h0 : b = 0
  · rw [if_pos h0, if_pos h0]
  · rw [if_neg h0, if_neg h0, size_f a ha.1 ha.2, size_f b hb.1 hb.2]
    simp only [Option.bind_some]
    have hs : ¬ (if b < 0 then -b else b) = 0 := by split <;> omega
    rw [if_neg hs]
    have hq := tdiv_sign a b
    obtain ⟨q, hqe⟩ : ∃ q, Int.tdiv (if a < 0 then -a else a) (if b < 0 then -b else b) = q := ⟨_, rfl⟩
    have hqb : 0 ≤ q ∧ q ≤ 9223372036854775808 := by
      rw [← hqe]
      exact tdiv_bound (by split <;> omega) (by split <;> omega)
    rw [hqe] at hq ⊢
    have hm : Int.tmod a b = a - Int.tdiv a b * b := by rw [Int.tmod_def, Int.mul_comm]
    have hmi := tmod_in (b := b) ha
    by_cases hsg : (decide (a < 0) != decide (b < 0)) = true
    · rw [if_pos hsg] at hq ⊢
      rw [hq] at hm ⊢
      rw [hm] at hmi ⊢
      congr 2
      · refine w64_congr ?_
        simp only [u64C]
        omega
      · refine (w64_congr (y := a - -q * b) ?_).trans (IntWalk.wrap64_in _ hmi)
        simp only [u64C]
        rw [show q % 18446744073709551616 = q by omega]
        exact mod_part2 a (-q) b
    · rw [if_neg hsg] at hq ⊢
      rw [hq] at hm ⊢
      rw [hm] at hmi ⊢
      congr 2
      · refine w64_congr ?_
        simp only [u64C]
        omega
      · refine (w64_congr (y := a - q * b) ?_).trans (IntWalk.wrap64_in _ hmi)
        simp only [u64C]
        exact mod_part2 a q b
theorem mx_lt {a b : Int} (_ : -9223372036854775808 ≤ a ∧ a ≤ 9223372036854775807) (hb : -9223372036854775808 ≤ b ∧ b ≤ 9223372036854775807) (h0 : b ≠ 0) (hm : b ≠ -9223372036854775808) : mx (Int.tmod a b) (wrap64 (-Int.tmod a b)) < mx b (wrap64 (-b)) := by
  have h1 : (Int.tmod a b).natAbs < b.natAbs := by
    rw [Int.natAbs_tmod]
    exact Nat.mod_lt _ (by omega)
  unfold mx wrap64
  split <;> split <;> omega
theorem tmod_sign {a b : Int} (h : Int.tmod a b ≠ 0) : (decide (Int.tmod a b < 0) == decide (a < 0)) = true := by
  by_cases ha : a < 0
  · have e : Int.tmod a b = -(Int.tmod (-a) b) := by rw [Int.neg_tmod, Int.neg_neg]
    have h1 := Int.tmod_nonneg b (show 0 ≤ -a by omega)
    have : Int.tmod a b < 0 := by omega
    simp [ha, this]
  · have h1 := Int.tmod_nonneg b (show 0 ≤ a by omega)
    have : ¬ Int.tmod a b < 0 := by omega
    simp [ha, this]
theorem div_back (a b : Int) (ha : -9223372036854775808 ≤ a ∧ a ≤ 9223372036854775807) : wrap64 (wrap64 (wrap64 (Int.tdiv a b) * b) + Int.tmod a b) = a := by
  have h := Int.tdiv_mul_add_tmod a b
  have e : (wrap64 (wrap64 (Int.tdiv a b) * b) + Int.tmod a b) % 18446744073709551616 = (Int.tdiv a b * b + Int.tmod a b) % 18446744073709551616 := by
    have k1 : wrap64 (wrap64 (Int.tdiv a b) * b) % 18446744073709551616 = (wrap64 (Int.tdiv a b) * b) % 18446744073709551616 := by unfold wrap64; omega
    have k2 : wrap64 (Int.tdiv a b) % 18446744073709551616 = Int.tdiv a b % 18446744073709551616 := by unfold wrap64; omega
    rw [Int.add_emod, k1, Int.mul_emod, k2, ← Int.mul_emod, ← Int.add_emod]
  rw [w64_congr e, h]
  exact IntWalk.wrap64_in _ ha
end Go.Proofs.YtnllfppkfdnjpabDoor.Q
