/- The reference's loops, bit by bit: or, and, xor; the shifts: plain laws. -/
import Derived.Test.YtnllfppkfdnjpabDoorPAlu
import Derived.Test.YtnllfppkfdnjpabDoorJx2h
import Derived.Laws.Bits64b
namespace Go.Proofs.YtnllfppkfdnjpabDoor.Q
open Go Go.RowKit Go.Proofs.YtnllfppkfdnjpabDoor.Ops Go.Proofs.YtnllfppkfdnjpabDoorW.PrintWords

theorem power_all : (List.range 64).map (fun n => slotcoderef01_Power.f 70 (Int.ofNat n)) = (List.range 64).map (fun n => some (Int.ofNat (2 ^ n))) := by kernel_rfl
theorem power_f (k n : Nat) (hk : 70 ≤ k) (hn : n < 64) : slotcoderef01_Power.f k (n : Int) = some ((2 ^ n : Nat) : Int) :=
  at_rounds (g := fun k => slotcoderef01_Power.f k (n : Int)) (fun k => slotcoderef01_Power.mono _ k) hk (List.map_inj_left.1 power_all n (List.mem_range.2 hn))
theorem natu (p : Nat) (h : p < 18446744073709551616) : IntKind.u64.wrap (p : Int) = (p : Int) := by rw [u64C]; omega
/-- One bit of the three combinations. -/
def bitF (kind : Int) (x y : Nat) : Nat := if kind = 0 then (if x = 1 then 1 else if y = 1 then 1 else 0) else if kind = 1 then (if x = 1 then (if y = 1 then 1 else 0) else 0) else (if x = y then 0 else 1)
theorem bit_loop {kind : Int} (hkind : kind = 0 ∨ kind = 1 ∨ kind = 2) (a b c : Nat) (ha : a < 18446744073709551616) (hb : b < 18446744073709551616) (hc : c < 18446744073709551616) (hbit : ∀ m, m < 64 → c / 2 ^ m % 2 = bitF kind (a / 2 ^ m % 2) (b / 2 ^ m % 2)) :
    ∀ (m k : Nat), m ≤ 64 → m + 71 ≤ k → slotcoderef06_bitwise.l0 k kind a b ((c / 2 ^ m : Nat) : Int) ((m : Int) - 1) = some (c : Int)
  | 0, k, _, hk => by
    obtain ⟨k', rfl⟩ : ∃ k', k = k' + 1 := ⟨k - 1, by omega⟩
    rw [slotcoderef06_bitwise.l0, if_neg (by omega)]
    simp
  | m + 1, k, hm, hk => by
    obtain ⟨k', rfl⟩ : ∃ k', k = k' + 1 := ⟨k - 1, by omega⟩
    have ih := bit_loop hkind a b c ha hb hc hbit m k' (by omega) (by omega)
    have hp := power_f k' m (by omega) (by omega)
    have hp0 : 0 < 2 ^ m := Nat.pow_pos (by omega)
    have hne : ¬ ((2 ^ m : Nat) : Int) = 0 := by omega
    have hb1 := hbit m (by omega)
    have z0 : ((0 : Nat) : Int) = 0 := rfl
    have z1 : ((1 : Nat) : Int) = 1 := rfl
    have y0 : ((0 : Int) == 1) = false := rfl
    have y1 : ((1 : Int) == 1) = true := rfl
    have x0 : (false != false) = false := rfl
    have x1 : (false != true) = true := rfl
    have x2 : (true != false) = true := rfl
    have x3 : (true != true) = false := rfl
    have ej : ((m + 1 : Nat) : Int) - 1 = (m : Int) := by omega
    have ew : wrap64 ((m : Int) - 1) = (m : Int) - 1 := by unfold wrap64; omega
    have edc : c / 2 ^ m = 2 * (c / 2 ^ (m + 1)) + c / 2 ^ m % 2 := by rw [Nat.pow_succ, ← Nat.div_div_eq_div_mul]; omega
    have ecl : c / 2 ^ m ≤ c := Nat.div_le_self _ _
    have ea : Int.tmod (IntKind.u64.wrap (Int.tdiv (a : Int) ((2 ^ m : Nat) : Int))) 2 = ((a / 2 ^ m % 2 : Nat) : Int) := by
      have h1 : a / 2 ^ m ≤ a := Nat.div_le_self _ _
      rw [show Int.tdiv (a : Int) ((2 ^ m : Nat) : Int) = ((a / 2 ^ m : Nat) : Int) from rfl, natu _ (Nat.lt_of_le_of_lt h1 ha)]
      rfl
    have eb : Int.tmod (IntKind.u64.wrap (Int.tdiv (b : Int) ((2 ^ m : Nat) : Int))) 2 = ((b / 2 ^ m % 2 : Nat) : Int) := by
      have h1 : b / 2 ^ m ≤ b := Nat.div_le_self _ _
      rw [show Int.tdiv (b : Int) ((2 ^ m : Nat) : Int) = ((b / 2 ^ m : Nat) : Int) from rfl, natu _ (Nat.lt_of_le_of_lt h1 hb)]
      rfl
    have o0 : c / 2 ^ m % 2 = 0 → IntKind.u64.wrap (((c / 2 ^ (m + 1) : Nat) : Int) * 2) = ((c / 2 ^ m : Nat) : Int) := fun h => by rw [u64C]; omega
    have o1 : c / 2 ^ m % 2 = 1 → IntKind.u64.wrap (IntKind.u64.wrap (((c / 2 ^ (m + 1) : Nat) : Int) * 2) + 1) = ((c / 2 ^ m : Nat) : Int) := fun h => by rw [u64C, u64C]; omega
    rw [ej, slotcoderef06_bitwise.l0, if_pos (by omega), hp]
    simp only [Option.bind_some]
    rw [if_neg hne, if_neg hne, ea, eb, ew]
    clear ea eb ew ej hp ha hb hc hbit hne hp0 edc ecl
    rcases hkind with rfl | rfl | rfl <;> rcases Nat.mod_two_eq_zero_or_one (a / 2 ^ m) with hx | hx <;> rcases Nat.mod_two_eq_zero_or_one (b / 2 ^ m) with hy | hy
    all_goals (rw [hx, hy] at hb1 ⊢)
    all_goals (simp [bitF] at hb1)
    all_goals simp only [z0, z1, y0, y1, x0, x1, x2, x3, Int.reduceEq, if_false, if_true, Bool.false_eq_true]
    all_goals first
      | (rw [o0 hb1]; exact ih)
      | (rw [o1 hb1]; exact ih)
theorem or_f (a b k : Nat) (hk : 140 ≤ k) (ha : a < 18446744073709551616) (hb : b < 18446744073709551616) : slotcoderef06_bitwise.f k 0 a b = some ((a ||| b : Nat) : Int) := by
  have hc : a ||| b < 2 ^ 64 := Nat.or_lt_two_pow (by omega) (by omega)
  have h := bit_loop (kind := 0) (.inl rfl) a b (a ||| b) ha hb (by omega) (fun m hm => by
    rw [Nat.or_div_two_pow]
    have e2 : (a / 2 ^ m ||| b / 2 ^ m) % 2 = (a / 2 ^ m % 2) ||| (b / 2 ^ m % 2) := by have := Nat.or_mod_two_pow (a := a / 2 ^ m) (b := b / 2 ^ m) (n := 1); simpa using this
    rw [e2]
    rcases Nat.mod_two_eq_zero_or_one (a / 2 ^ m) with hx | hx <;> rcases Nat.mod_two_eq_zero_or_one (b / 2 ^ m) with hy | hy <;> rw [hx, hy] <;> rfl) 64 k (by omega) (by omega)
  rw [show (a ||| b) / 2 ^ 64 = 0 from Nat.div_eq_of_lt hc] at h
  exact h
theorem and_f (a b k : Nat) (hk : 140 ≤ k) (ha : a < 18446744073709551616) (hb : b < 18446744073709551616) : slotcoderef06_bitwise.f k 1 a b = some ((a &&& b : Nat) : Int) := by
  have hc : a &&& b < 2 ^ 64 := Nat.and_lt_two_pow _ (by omega)
  have h := bit_loop (kind := 1) (.inr (.inl rfl)) a b (a &&& b) ha hb (by omega) (fun m hm => by
    rw [Nat.and_div_two_pow]
    have e2 : (a / 2 ^ m &&& b / 2 ^ m) % 2 = (a / 2 ^ m % 2) &&& (b / 2 ^ m % 2) := by have := Nat.and_mod_two_pow (a := a / 2 ^ m) (b := b / 2 ^ m) (n := 1); simpa using this
    rw [e2]
    rcases Nat.mod_two_eq_zero_or_one (a / 2 ^ m) with hx | hx <;> rcases Nat.mod_two_eq_zero_or_one (b / 2 ^ m) with hy | hy <;> rw [hx, hy] <;> rfl) 64 k (by omega) (by omega)
  rw [show (a &&& b) / 2 ^ 64 = 0 from Nat.div_eq_of_lt hc] at h
  exact h
theorem xor_f (a b k : Nat) (hk : 140 ≤ k) (ha : a < 18446744073709551616) (hb : b < 18446744073709551616) : slotcoderef06_bitwise.f k 2 a b = some ((a ^^^ b : Nat) : Int) := by
  have hc : a ^^^ b < 2 ^ 64 := Nat.xor_lt_two_pow (by omega) (by omega)
  have h := bit_loop (kind := 2) (.inr (.inr rfl)) a b (a ^^^ b) ha hb (by omega) (fun m hm => by
    rw [Nat.xor_div_two_pow]
    have e2 : (a / 2 ^ m ^^^ b / 2 ^ m) % 2 = (a / 2 ^ m % 2) ^^^ (b / 2 ^ m % 2) := by have := Nat.xor_mod_two_pow (a := a / 2 ^ m) (b := b / 2 ^ m) (n := 1); simpa using this
    rw [e2]
    rcases Nat.mod_two_eq_zero_or_one (a / 2 ^ m) with hx | hx <;> rcases Nat.mod_two_eq_zero_or_one (b / 2 ^ m) with hy | hy <;> rw [hx, hy] <;> rfl) 64 k (by omega) (by omega)
  rw [show (a ^^^ b) / 2 ^ 64 = 0 from Nat.div_eq_of_lt hc] at h
  exact h

/-! The shifts. -/
def lo (n x : Int) : Int := if n = 64 then x else x % 4294967296
def hb (n : Int) : Int := if n = 64 then 9223372036854775808 else 2147483648
theorem low_f {n : Int} (hn : n = 64 ∨ n = 32) (k : Nat) (hk : 70 ≤ k) (x : Int) (h : 0 ≤ x) : slotcoderef06_low.f k x n = some (lo n x) := by
  unfold slotcoderef06_low.f lo
  rcases hn with rfl | rfl
  · rfl
  · have hp := power_f k 32 hk (by omega)
    rw [if_neg (by omega), if_neg (by omega), show ((32 : Nat) : Int) = 32 from rfl] at *
    rw [hp]
    simp only [Option.bind_some]
    rw [if_neg (by decide), Int.tmod_eq_emod_of_nonneg h]
    rfl
theorem half_f {n : Int} (hn : n = 64 ∨ n = 32) (k : Nat) (hk : 70 ≤ k) : slotcoderef01_Power.f k (wrap64 (n - 1)) = some (hb n) := by
  rcases hn with rfl | rfl
  · rw [show wrap64 (64 - 1) = ((63 : Nat) : Int) from by unfold wrap64; omega, power_f k 63 hk (by omega)]
    rfl
  · rw [show wrap64 (32 - 1) = ((31 : Nat) : Int) from by unfold wrap64; omega, power_f k 31 hk (by omega)]
    rfl
theorem half_pow (a : Int) (m : Nat) : a / 2 / 2 ^ m = a / 2 ^ (m + 1) := by
  rw [Int.pow_succ, Int.mul_comm, Int.ediv_ediv, if_neg (by omega), Int.sub_zero]
theorem hb_ne {n : Int} : ¬ hb n = 0 := by unfold hb; split <;> omega
theorem shl_loop {n : Int} (hn : n = 64 ∨ n = 32) (c : Int) (hc : 0 ≤ c ∧ c < 64) : ∀ (m k : Nat) (a : Int), 0 ≤ a → m ≤ 64 → m + 71 ≤ k → slotcoderef06_shift.l0 k 0 a c n (c - m) = some (if m = 0 then a else a * 2 ^ m % 18446744073709551616)
  | 0, k, a, _, _, hk => by
    obtain ⟨k', rfl⟩ : ∃ k', k = k' + 1 := ⟨k - 1, by omega⟩
    rw [slotcoderef06_shift.l0, if_neg (by omega)]
    rfl
  | m + 1, k, a, ha, hm, hk => by
    obtain ⟨k', rfl⟩ : ∃ k', k = k' + 1 := ⟨k - 1, by omega⟩
    have ih := shl_loop hn c hc m k' (IntKind.u64.wrap (a * 2)) (by rw [u64C]; omega) (by omega) (by omega)
    rw [slotcoderef06_shift.l0, if_pos (by omega), low_f hn k' (by omega) a ha, half_f hn k' (by omega)]
    simp only [Option.bind_some]
    rw [if_neg hb_ne, if_pos trivial, if_neg (show ¬ (0 : Int) = 2 by omega), show wrap64 (c - ((m + 1 : Nat) : Int) + 1) = c - m by unfold wrap64; omega, ih, if_neg (show ¬ m + 1 = 0 by omega)]
    congr 1
    rw [u64C, Int.pow_succ]
    split
    · rename_i h0; subst h0; simp
    · rw [Int.mul_comm ((2 : Int) ^ m) 2, ← Int.mul_assoc]
      simp [Int.mul_emod]
theorem shr_loop {n : Int} (hn : n = 64 ∨ n = 32) (c : Int) (hc : 0 ≤ c ∧ c < 64) : ∀ (m k : Nat) (a : Int), 0 ≤ a → a < 2 * hb n → m ≤ 64 → m + 71 ≤ k → slotcoderef06_shift.l0 k 1 a c n (c - m) = some (a / 2 ^ m)
  | 0, k, a, _, _, _, hk => by
    obtain ⟨k', rfl⟩ : ∃ k', k = k' + 1 := ⟨k - 1, by omega⟩
    rw [slotcoderef06_shift.l0, if_neg (by omega)]
    simp
  | m + 1, k, a, ha, hal, hm, hk => by
    obtain ⟨k', rfl⟩ : ∃ k', k = k' + 1 := ⟨k - 1, by omega⟩
    have hlo : lo n a = a := by rcases hn with rfl | rfl <;> simp [lo, hb] at hal ⊢ <;> omega
    have hau : a < 18446744073709551616 := by rcases hn with rfl | rfl <;> simp [hb] at hal <;> omega
    have ih := shr_loop hn c hc m k' (a / 2) (by omega) (by omega) (by omega) (by omega)
    rw [slotcoderef06_shift.l0, if_pos (by omega), low_f hn k' (by omega) a ha, half_f hn k' (by omega)]
    simp only [Option.bind_some]
    rw [if_neg hb_ne, if_neg (by omega), if_neg (by omega), hlo, show wrap64 (c - ((m + 1 : Nat) : Int) + 1) = c - m by unfold wrap64; omega, Int.tdiv_eq_ediv_of_nonneg ha, u64C, show a / 2 % 18446744073709551616 = a / 2 by omega, ih, half_pow]
theorem sar_loop {n : Int} (hn : n = 64 ∨ n = 32) (c : Int) (hc : 0 ≤ c ∧ c < 64) : ∀ (m k : Nat) (S : Int), -hb n ≤ S → S < hb n → m ≤ 64 → m + 71 ≤ k → slotcoderef06_shift.l0 k 2 (S % (2 * hb n)) c n (c - m) = some (S / 2 ^ m % (2 * hb n))
  | 0, k, S, _, _, _, hk => by
    obtain ⟨k', rfl⟩ : ∃ k', k = k' + 1 := ⟨k - 1, by omega⟩
    rw [slotcoderef06_shift.l0, if_neg (by omega)]
    simp
  | m + 1, k, S, h1, h2, hm, hk => by
    obtain ⟨k', rfl⟩ : ∃ k', k = k' + 1 := ⟨k - 1, by omega⟩
    have hp : 0 < hb n := by unfold hb; split <;> omega
    have hs : -hb n ≤ S / 2 ∧ S / 2 < hb n := by omega
    have ih := sar_loop hn c hc m k' (S / 2) hs.1 hs.2 (by omega) (by omega)
    have ha : 0 ≤ S % (2 * hb n) := Int.emod_nonneg _ (by omega)
    have hlo : lo n (S % (2 * hb n)) = S % (2 * hb n) := by
      rcases hn with rfl | rfl
      · rfl
      · show S % (2 * hb 32) % 4294967296 = _
        rw [show hb 32 = 2147483648 from rfl]
        omega
    have key : IntKind.u64.wrap (IntKind.u64.wrap (Int.tdiv (S % (2 * hb n)) 2) + IntKind.u64.wrap (IntKind.u64.wrap (Int.tdiv (S % (2 * hb n)) (hb n)) * hb n)) = S / 2 % (2 * hb n) := by
      rw [Int.tdiv_eq_ediv_of_nonneg ha, Int.tdiv_eq_ediv_of_nonneg ha, u64C, u64C, u64C, u64C]
      rcases hn with rfl | rfl
      · rw [show hb 64 = 9223372036854775808 from rfl] at *
        by_cases hS : 0 ≤ S
        · rw [show S % (2 * 9223372036854775808) = S by omega, show S / 9223372036854775808 = 0 by omega]
          omega
        · rw [show S % (2 * 9223372036854775808) = S + 18446744073709551616 by omega, show (S + 18446744073709551616) / 9223372036854775808 = 1 by omega]
          omega
      · rw [show hb 32 = 2147483648 from rfl] at *
        by_cases hS : 0 ≤ S
        · rw [show S % (2 * 2147483648) = S by omega, show S / 2147483648 = 0 by omega]
          omega
        · rw [show S % (2 * 2147483648) = S + 4294967296 by omega, show (S + 4294967296) / 2147483648 = 1 by omega]
          omega
    rw [slotcoderef06_shift.l0, if_pos (by omega), low_f hn k' (by omega) _ ha, half_f hn k' (by omega)]
    simp only [Option.bind_some]
    rw [if_neg hb_ne, if_neg (by omega), if_pos trivial, hlo, key, show wrap64 (c - ((m + 1 : Nat) : Int) + 1) = c - m by unfold wrap64; omega, ih, half_pow]
end Go.Proofs.YtnllfppkfdnjpabDoor.Q
