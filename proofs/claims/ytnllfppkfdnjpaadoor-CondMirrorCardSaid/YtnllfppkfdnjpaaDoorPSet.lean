/- Two numbers have a bit in common: the loop that looks bit by bit. -/
import Derived.Test.YtnllfppkfdnjpaaDoorPCond
import Derived.Laws.Bits64b
namespace Go.Proofs.YtnllfppkfdnjpaaDoor.Q
open Go Go.RowKit Go.Proofs.YtnllfppkfdnjpaaDoor.Ops Go.Proofs.YtnllfppkfdnjpaaDoorW.PrintWords

theorem and_half (a b : Nat) (h : ¬ (a % 2 = 1 ∧ b % 2 = 1)) : (a &&& b ≠ 0) ↔ (a / 2 &&& b / 2 ≠ 0) := by
  have e1 : (a &&& b) / 2 = a / 2 &&& b / 2 := by have := Nat.and_div_two_pow (a := a) (b := b) (n := 1); simpa using this
  have e2 : (a &&& b) % 2 = (a % 2) &&& (b % 2) := by have := Nat.and_mod_two_pow (a := a) (b := b) (n := 1); simpa using this
  have e3 : (a % 2) &&& (b % 2) = 0 := by
    rcases Nat.mod_two_eq_zero_or_one a with ha | ha <;> rcases Nat.mod_two_eq_zero_or_one b with hb | hb
    · rw [ha, hb]; rfl
    · rw [ha, hb]; rfl
    · rw [ha, hb]; rfl
    · exact absurd ⟨ha, hb⟩ h
  rw [← e1]
  omega
theorem and_odd (a b : Nat) (ha : a % 2 = 1) (hb : b % 2 = 1) : a &&& b ≠ 0 := by
  have e2 : (a &&& b) % 2 = (a % 2) &&& (b % 2) := by have := Nat.and_mod_two_pow (a := a) (b := b) (n := 1); simpa using this
  rw [ha, hb] at e2
  intro h
  rw [h] at e2
  exact absurd e2 (by decide)
theorem half_wrap (a : Nat) (h : a < 18446744073709551616) : IntKind.u64.wrap (Int.tdiv (a : Int) 2) = ((a / 2 : Nat) : Int) := by
  rw [u64C, show Int.tdiv (a : Int) 2 = ((a / 2 : Nat) : Int) from rfl]
  omega
theorem set_loop : ∀ (m : Nat) (a b k : Nat), a < 2 ^ m → a < 18446744073709551616 → b < 18446744073709551616 → 2 * m + 2 ≤ k → slotcoderef07_Condition.l0 k a b = some (decide (a &&& b ≠ 0))
  | m, a, b, k, hm, ha, hb, hk => by
    obtain ⟨k2, rfl⟩ : ∃ k2, k = k2 + 2 := ⟨k - 2, by omega⟩
    unfold slotcoderef07_Condition.l0
    by_cases a0 : a = 0
    · subst a0
      rw [if_neg (by simp)]
      unfold slotcoderef07_Condition.j1
      simp
    · rw [if_pos (by omega)]
      unfold slotcoderef07_Condition.j1
      by_cases b0 : b = 0
      · subst b0
        simp
      · rw [if_pos (by simp; omega)]
        obtain ⟨m', rfl⟩ : ∃ m', m = m' + 1 := ⟨m - 1, by
          cases m with
          | zero => simp at hm; omega
          | succ m => rfl⟩
        have ih := set_loop m' (a / 2) (b / 2) k2 (by rw [Nat.pow_succ] at hm; omega) (by omega) (by omega) (by omega)
        rw [half_wrap a ha, half_wrap b hb, ih]
        have ta : Int.tmod (a : Int) 2 = ((a % 2 : Nat) : Int) := rfl
        have tb : Int.tmod (b : Int) 2 = ((b % 2 : Nat) : Int) := rfl
        rw [ta, tb]
        by_cases h1 : a % 2 = 1
        · rw [if_pos (by omega)]
          by_cases h2 : b % 2 = 1
          · rw [if_pos (by omega)]
            simp [and_odd a b h1 h2]
          · rw [if_neg (by omega)]
            congr 1
            exact decide_eq_decide.2 (and_half a b (fun h => h2 h.2)).symm
        · rw [if_neg (by omega)]
          congr 1
          exact decide_eq_decide.2 (and_half a b (fun h => h1 h.1)).symm
/-- Whether two numbers have a bit in common. -/
def setN (a b : Int) : Bool := decide (a.toNat &&& b.toNat ≠ 0)
theorem set200 (a b : Int) (ha : 0 ≤ a ∧ a < 18446744073709551616) (hb : 0 ≤ b ∧ b < 18446744073709551616) : slotcoderef07_Condition.l0 200 a b = some (setN a b) := by
  obtain ⟨x, rfl⟩ := Int.eq_ofNat_of_zero_le ha.1
  obtain ⟨y, rfl⟩ := Int.eq_ofNat_of_zero_le hb.1
  have h := set_loop 64 x y 200 (by omega) (by omega) (by omega) (by omega)
  rw [h]
  rfl
/-- .. as the program looks. -/
theorem set64 (a b : Int) (ha : 0 ≤ a ∧ a < 18446744073709551616) (hb : 0 ≤ b ∧ b < 18446744073709551616) : (shl .u64 (Go.bits .and .u64 a b) (wrap64 (64 - 64)) != 0) = setN a b := by
  obtain ⟨x, rfl⟩ := Int.eq_ofNat_of_zero_le ha.1
  obtain ⟨y, rfl⟩ := Int.eq_ofNat_of_zero_le hb.1
  have hl : x &&& y < 2 ^ 64 := Nat.and_lt_two_pow _ (by omega)
  rw [show wrap64 (64 - 64) = ((0 : Nat) : Int) from by unfold wrap64; omega, shlC _ 0 0 1 (by omega) rfl (by decide), bits_and_u64_nat x y (by omega) (by omega)]
  unfold setN
  simp only [Int.toNat_natCast, Int.mul_one]
  rw [show ((x &&& y : Nat) : Int) % 18446744073709551616 = ((x &&& y : Nat) : Int) by omega, Bool.eq_iff_iff]
  simp only [bne_iff_ne, ne_eq, decide_eq_true_eq]
  omega
theorem set32 (u v : Int) (hu : 0 ≤ u ∧ u < 18446744073709551616) (hv : 0 ≤ v ∧ v < 18446744073709551616) : (shl .u64 (Go.bits .and .u64 u v) (wrap64 (64 - 32)) != 0) = setN (u % 4294967296) (v % 4294967296) := by
  obtain ⟨x, rfl⟩ := Int.eq_ofNat_of_zero_le hu.1
  obtain ⟨y, rfl⟩ := Int.eq_ofNat_of_zero_le hv.1
  have hl : x &&& y < 2 ^ 64 := Nat.and_lt_two_pow _ (by omega)
  have e2 : (x &&& y) % 4294967296 = (x % 4294967296) &&& (y % 4294967296) := by have := Nat.and_mod_two_pow (a := x) (b := y) (n := 32); simpa using this
  rw [show wrap64 (64 - 32) = ((32 : Nat) : Int) from by unfold wrap64; omega, shlC _ 32 32 4294967296 (by omega) rfl (by decide), bits_and_u64_nat x y (by omega) (by omega)]
  unfold setN
  rw [show (((x : Int) % 4294967296).toNat) = x % 4294967296 by omega, show (((y : Int) % 4294967296).toNat) = y % 4294967296 by omega, ← e2, Bool.eq_iff_iff]
  simp only [bne_iff_ne, ne_eq, decide_eq_true_eq]
  omega
end Go.Proofs.YtnllfppkfdnjpaaDoor.Q
