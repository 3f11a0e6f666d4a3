/- Swap, in the program and in the reference: plain laws. -/
import Derived.Test.YtnllfppkfdnjpabDoorPSwap
import Derived.Test.YtnllfppkfdnjpabDoorJx1i
namespace Go.Proofs.YtnllfppkfdnjpabDoor.Q
open Go Go.RowKit Go.Proofs.YtnllfppkfdnjpabDoor.Ops Go.Proofs.YtnllfppkfdnjpabDoorW.PrintWords

theorem shrC (x : Int) (n m : Nat) (p : Int) (h : n ≤ 64) (hm : (n : Int) = m) (hp : (2 : Int) ^ n = p) : shr .u64 x m = x / p := by
  unfold shr
  rw [← hm, Int.toNat_natCast, show IntKind.u64.bits = 64 from rfl, Nat.min_eq_left h, hp]
theorem swap16 (x y : Int) (h : bits_ReverseBytes64.f x = some y) : alu_Swap.f x 16 = some (y / 281474976710656) := by
  unfold alu_Swap.f
  rw [h]
  simp only [Option.bind_some, if_true]
  rw [show wrap64 (64 - 16) = ((48 : Nat) : Int) from by unfold wrap64; omega, if_pos (by omega), shrC _ 48 48 281474976710656 (by omega) rfl (by decide)]
theorem swap32 (x y : Int) (h : bits_ReverseBytes64.f x = some y) : alu_Swap.f x 32 = some (y / 4294967296) := by
  unfold alu_Swap.f
  rw [h]
  simp only [Option.bind_some, Int.reduceEq, if_false, if_true]
  rw [show wrap64 (64 - 32) = ((32 : Nat) : Int) from by unfold wrap64; omega, if_pos (by omega), shrC _ 32 32 4294967296 (by omega) rfl (by decide)]
theorem swap64 (x y : Int) (h : bits_ReverseBytes64.f x = some y) : alu_Swap.f x 64 = some (y / 1) := by
  unfold alu_Swap.f
  rw [h]
  simp only [Option.bind_some, Int.reduceEq, if_false, if_true]
  rw [show wrap64 (64 - 64) = ((0 : Nat) : Int) from by unfold wrap64; omega, if_pos (by omega), shrC _ 0 0 1 (by omega) rfl (by decide)]
theorem sw_step (k : Nat) (x bits out i i' x' out' : Int) (h : i < wrap64 (Int.tdiv bits 8)) (hi : wrap64 (i + 1) = i') (hx : IntKind.u64.wrap (Int.tdiv x 256) = x') (ho : IntKind.u64.wrap ((IntKind.u64.wrap (out * 256)) + (Int.tmod x 256)) = out') :
    slotcoderef06_Swap.l0 (k + 1) x bits out i = slotcoderef06_Swap.l0 k x' bits out' i' := by
  rw [slotcoderef06_Swap.l0, if_pos h, hx, ho, hi]
theorem sw_end (k : Nat) (x bits out i : Int) (h : ¬ i < wrap64 (Int.tdiv bits 8)) : slotcoderef06_Swap.l0 (k + 1) x bits out i = some out := by
  rw [slotcoderef06_Swap.l0, if_neg h]
theorem tdN (x : Nat) : Int.tdiv (x : Int) 256 = ((x / 256 : Nat) : Int) := rfl
theorem tmN (x : Nat) : Int.tmod (x : Int) 256 = ((x % 256 : Nat) : Int) := rfl
set_option maxHeartbeats 4000000 in
theorem rswap16 (b0 b1 b2 b3 b4 b5 b6 b7 : Nat) (h0 : b0 < 256) (h1 : b1 < 256) (h2 : b2 < 256) (h3 : b3 < 256) (h4 : b4 < 256) (h5 : b5 < 256) (h6 : b6 < 256) (h7 : b7 < 256) : slotcoderef06_Swap.f 200 ((b0 + 256 * b1 + 65536 * b2 + 16777216 * b3 + 4294967296 * b4 + 1099511627776 * b5 + 281474976710656 * b6 + 72057594037927936 * b7 : Nat) : Int) 16 = some ((b1 + 256 * b0 : Nat) : Int) := by
  have lim : wrap64 (Int.tdiv 16 8) = 2 := by kernel_rfl
  have e : slotcoderef06_Swap.f 200 ((b0 + 256 * b1 + 65536 * b2 + 16777216 * b3 + 4294967296 * b4 + 1099511627776 * b5 + 281474976710656 * b6 + 72057594037927936 * b7 : Nat) : Int) 16 = slotcoderef06_Swap.l0 199 ((b0 + 256 * b1 + 65536 * b2 + 16777216 * b3 + 4294967296 * b4 + 1099511627776 * b5 + 281474976710656 * b6 + 72057594037927936 * b7 : Nat) : Int) 16 ((0 : Nat) : Int) 0 := rfl
  rw [e]
  rw [sw_step 198 _ 16 _ 0 1 ((b1 + 256 * b2 + 65536 * b3 + 16777216 * b4 + 4294967296 * b5 + 1099511627776 * b6 + 281474976710656 * b7 : Nat) : Int) ((b0 : Nat) : Int) (by rw [lim]; omega) (by unfold wrap64; omega) (by rw [tdN, u64C]; omega) (by rw [tmN, u64C, u64C]; omega)]
  rw [sw_step 197 _ 16 _ 1 2 ((b2 + 256 * b3 + 65536 * b4 + 16777216 * b5 + 4294967296 * b6 + 1099511627776 * b7 : Nat) : Int) ((b1 + 256 * b0 : Nat) : Int) (by rw [lim]; omega) (by unfold wrap64; omega) (by rw [tdN, u64C]; omega) (by rw [tmN, u64C, u64C]; omega)]
  rw [sw_end 196 _ 16 _ 2 (by rw [lim]; omega)]
set_option maxHeartbeats 4000000 in
theorem rswap32 (b0 b1 b2 b3 b4 b5 b6 b7 : Nat) (h0 : b0 < 256) (h1 : b1 < 256) (h2 : b2 < 256) (h3 : b3 < 256) (h4 : b4 < 256) (h5 : b5 < 256) (h6 : b6 < 256) (h7 : b7 < 256) : slotcoderef06_Swap.f 200 ((b0 + 256 * b1 + 65536 * b2 + 16777216 * b3 + 4294967296 * b4 + 1099511627776 * b5 + 281474976710656 * b6 + 72057594037927936 * b7 : Nat) : Int) 32 = some ((b3 + 256 * b2 + 65536 * b1 + 16777216 * b0 : Nat) : Int) := by
  have lim : wrap64 (Int.tdiv 32 8) = 4 := by kernel_rfl
  have e : slotcoderef06_Swap.f 200 ((b0 + 256 * b1 + 65536 * b2 + 16777216 * b3 + 4294967296 * b4 + 1099511627776 * b5 + 281474976710656 * b6 + 72057594037927936 * b7 : Nat) : Int) 32 = slotcoderef06_Swap.l0 199 ((b0 + 256 * b1 + 65536 * b2 + 16777216 * b3 + 4294967296 * b4 + 1099511627776 * b5 + 281474976710656 * b6 + 72057594037927936 * b7 : Nat) : Int) 32 ((0 : Nat) : Int) 0 := rfl
  rw [e]
  rw [sw_step 198 _ 32 _ 0 1 ((b1 + 256 * b2 + 65536 * b3 + 16777216 * b4 + 4294967296 * b5 + 1099511627776 * b6 + 281474976710656 * b7 : Nat) : Int) ((b0 : Nat) : Int) (by rw [lim]; omega) (by unfold wrap64; omega) (by rw [tdN, u64C]; omega) (by rw [tmN, u64C, u64C]; omega)]
  rw [sw_step 197 _ 32 _ 1 2 ((b2 + 256 * b3 + 65536 * b4 + 16777216 * b5 + 4294967296 * b6 + 1099511627776 * b7 : Nat) : Int) ((b1 + 256 * b0 : Nat) : Int) (by rw [lim]; omega) (by unfold wrap64; omega) (by rw [tdN, u64C]; omega) (by rw [tmN, u64C, u64C]; omega)]
  rw [sw_step 196 _ 32 _ 2 3 ((b3 + 256 * b4 + 65536 * b5 + 16777216 * b6 + 4294967296 * b7 : Nat) : Int) ((b2 + 256 * b1 + 65536 * b0 : Nat) : Int) (by rw [lim]; omega) (by unfold wrap64; omega) (by rw [tdN, u64C]; omega) (by rw [tmN, u64C, u64C]; omega)]
  rw [sw_step 195 _ 32 _ 3 4 ((b4 + 256 * b5 + 65536 * b6 + 16777216 * b7 : Nat) : Int) ((b3 + 256 * b2 + 65536 * b1 + 16777216 * b0 : Nat) : Int) (by rw [lim]; omega) (by unfold wrap64; omega) (by rw [tdN, u64C]; omega) (by rw [tmN, u64C, u64C]; omega)]
  rw [sw_end 194 _ 32 _ 4 (by rw [lim]; omega)]
set_option maxHeartbeats 4000000 in
theorem rswap64 (b0 b1 b2 b3 b4 b5 b6 b7 : Nat) (h0 : b0 < 256) (h1 : b1 < 256) (h2 : b2 < 256) (h3 : b3 < 256) (h4 : b4 < 256) (h5 : b5 < 256) (h6 : b6 < 256) (h7 : b7 < 256) : slotcoderef06_Swap.f 200 ((b0 + 256 * b1 + 65536 * b2 + 16777216 * b3 + 4294967296 * b4 + 1099511627776 * b5 + 281474976710656 * b6 + 72057594037927936 * b7 : Nat) : Int) 64 = some ((b7 + 256 * b6 + 65536 * b5 + 16777216 * b4 + 4294967296 * b3 + 1099511627776 * b2 + 281474976710656 * b1 + 72057594037927936 * b0 : Nat) : Int) := by
  have lim : wrap64 (Int.tdiv 64 8) = 8 := by kernel_rfl
  have e : slotcoderef06_Swap.f 200 ((b0 + 256 * b1 + 65536 * b2 + 16777216 * b3 + 4294967296 * b4 + 1099511627776 * b5 + 281474976710656 * b6 + 72057594037927936 * b7 : Nat) : Int) 64 = slotcoderef06_Swap.l0 199 ((b0 + 256 * b1 + 65536 * b2 + 16777216 * b3 + 4294967296 * b4 + 1099511627776 * b5 + 281474976710656 * b6 + 72057594037927936 * b7 : Nat) : Int) 64 ((0 : Nat) : Int) 0 := rfl
  rw [e]
  rw [sw_step 198 _ 64 _ 0 1 ((b1 + 256 * b2 + 65536 * b3 + 16777216 * b4 + 4294967296 * b5 + 1099511627776 * b6 + 281474976710656 * b7 : Nat) : Int) ((b0 : Nat) : Int) (by rw [lim]; omega) (by unfold wrap64; omega) (by rw [tdN, u64C]; omega) (by rw [tmN, u64C, u64C]; omega)]
  rw [sw_step 197 _ 64 _ 1 2 ((b2 + 256 * b3 + 65536 * b4 + 16777216 * b5 + 4294967296 * b6 + 1099511627776 * b7 : Nat) : Int) ((b1 + 256 * b0 : Nat) : Int) (by rw [lim]; omega) (by unfold wrap64; omega) (by rw [tdN, u64C]; omega) (by rw [tmN, u64C, u64C]; omega)]
  rw [sw_step 196 _ 64 _ 2 3 ((b3 + 256 * b4 + 65536 * b5 + 16777216 * b6 + 4294967296 * b7 : Nat) : Int) ((b2 + 256 * b1 + 65536 * b0 : Nat) : Int) (by rw [lim]; omega) (by unfold wrap64; omega) (by rw [tdN, u64C]; omega) (by rw [tmN, u64C, u64C]; omega)]
  rw [sw_step 195 _ 64 _ 3 4 ((b4 + 256 * b5 + 65536 * b6 + 16777216 * b7 : Nat) : Int) ((b3 + 256 * b2 + 65536 * b1 + 16777216 * b0 : Nat) : Int) (by rw [lim]; omega) (by unfold wrap64; omega) (by rw [tdN, u64C]; omega) (by rw [tmN, u64C, u64C]; omega)]
  rw [sw_step 194 _ 64 _ 4 5 ((b5 + 256 * b6 + 65536 * b7 : Nat) : Int) ((b4 + 256 * b3 + 65536 * b2 + 16777216 * b1 + 4294967296 * b0 : Nat) : Int) (by rw [lim]; omega) (by unfold wrap64; omega) (by rw [tdN, u64C]; omega) (by rw [tmN, u64C, u64C]; omega)]
  rw [sw_step 193 _ 64 _ 5 6 ((b6 + 256 * b7 : Nat) : Int) ((b5 + 256 * b4 + 65536 * b3 + 16777216 * b2 + 4294967296 * b1 + 1099511627776 * b0 : Nat) : Int) (by rw [lim]; omega) (by unfold wrap64; omega) (by rw [tdN, u64C]; omega) (by rw [tmN, u64C, u64C]; omega)]
  rw [sw_step 192 _ 64 _ 6 7 ((b7 : Nat) : Int) ((b6 + 256 * b5 + 65536 * b4 + 16777216 * b3 + 4294967296 * b2 + 1099511627776 * b1 + 281474976710656 * b0 : Nat) : Int) (by rw [lim]; omega) (by unfold wrap64; omega) (by rw [tdN, u64C]; omega) (by rw [tmN, u64C, u64C]; omega)]
  rw [sw_step 191 _ 64 _ 7 8 ((0 : Nat) : Int) ((b7 + 256 * b6 + 65536 * b5 + 16777216 * b4 + 4294967296 * b3 + 1099511627776 * b2 + 281474976710656 * b1 + 72057594037927936 * b0 : Nat) : Int) (by rw [lim]; omega) (by unfold wrap64; omega) (by rw [tdN, u64C]; omega) (by rw [tmN, u64C, u64C]; omega)]
  rw [sw_end 190 _ 64 _ 8 (by rw [lim]; omega)]
/-- A number's bytes. -/
theorem bytes_of (x : Int) (h0 : 0 ≤ x) (h1 : x ≤ 18446744073709551615) : ∃ b0 b1 b2 b3 b4 b5 b6 b7 : Nat, b0 < 256 ∧ b1 < 256 ∧ b2 < 256 ∧ b3 < 256 ∧ b4 < 256 ∧ b5 < 256 ∧ b6 < 256 ∧ b7 < 256 ∧ x = ((b0 + 256 * b1 + 65536 * b2 + 16777216 * b3 + 4294967296 * b4 + 1099511627776 * b5 + 281474976710656 * b6 + 72057594037927936 * b7 : Nat) : Int) := by
  obtain ⟨n, rfl⟩ := Int.eq_ofNat_of_zero_le h0
  exact ⟨n % 256, n / 256 % 256, n / 65536 % 256, n / 16777216 % 256, n / 4294967296 % 256, n / 1099511627776 % 256, n / 281474976710656 % 256, n / 72057594037927936 % 256, by omega, by omega, by omega, by omega, by omega, by omega, by omega, by omega, by omega⟩
theorem ext_tmod (k : Nat) (x y n : Int) (hn : ∀ p, slotcoderef01_Power.f k n = some p → Int.tmod x p = Int.tmod y p) (h64 : n = 64 → x = y) : slotcoderef01_Extend.f k x n = slotcoderef01_Extend.f k y n := by
  unfold slotcoderef01_Extend.f
  cases slotcoderef01_Width.f n with
  | none => rfl
  | some v =>
    cases v with
    | false => rfl
    | true =>
      simp only [Option.bind_some, if_true]
      by_cases h : n = 64
      · rw [h64 h]
      · rw [if_neg h, if_neg h]
        cases hp : slotcoderef01_Power.f k n with
        | none => rfl
        | some p =>
          simp only [Option.bind_some]
          rw [hn p hp]
theorem pow16 : slotcoderef01_Power.f 199 16 = some 65536 := by kernel_rfl
theorem pow32 : slotcoderef01_Power.f 199 32 = some 4294967296 := by kernel_rfl
theorem facts16 (x : Int) (hx : 0 ≤ x ∧ x ≤ 18446744073709551615) : ∃ y z : Int, alu_Swap.f x 16 = some y ∧ slotcoderef06_Swap.f 200 x 16 = some y ∧ alu_Swap.f y 16 = some z ∧ slotcoderef01_Extend.f 199 z 16 = slotcoderef01_Extend.f 199 x 16 := by
  obtain ⟨b0, b1, b2, b3, b4, b5, b6, b7, h0, h1, h2, h3, h4, h5, h6, h7, hxe⟩ := bytes_of x hx.1 hx.2
  have hrev := rev_bytes b0 b1 b2 b3 b4 b5 b6 b7 h0 h1 h2 h3 h4 h5 h6 h7
  have hr := rswap16 b0 b1 b2 b3 b4 b5 b6 b7 h0 h1 h2 h3 h4 h5 h6 h7
  rw [← hxe] at hrev hr
  have hrev2 := rev_bytes b1 b0 0 0 0 0 0 0 h1 h0 (by omega) (by omega) (by omega) (by omega) (by omega) (by omega)
  obtain ⟨y, hy⟩ : ∃ y : Int, y = ((b1 + 256 * b0 : Nat) : Int) := ⟨_, rfl⟩
  obtain ⟨z, hz⟩ : ∃ z : Int, z = ((b0 + 256 * b1 : Nat) : Int) := ⟨_, rfl⟩
  have hyx : ((b1 + 256 * b0 + 65536 * 0 + 16777216 * 0 + 4294967296 * 0 + 1099511627776 * 0 + 281474976710656 * 0 + 72057594037927936 * 0 : Nat) : Int) = y := by rw [hy]; omega
  rw [hyx] at hrev2
  rw [← hy] at hr
  refine ⟨y, z, ?_, hr, ?_, ?_⟩
  · rw [swap16 _ _ hrev, hy]
    congr 1
    unfold revN
    omega
  · rw [swap16 _ _ hrev2, hz]
    congr 1
    unfold revN
    omega
  · refine ext_tmod 199 z x 16 (fun p hp => ?_) (fun h => by omega)
    rw [pow16] at hp
    obtain rfl := Option.some.inj hp
    rw [Int.tmod_eq_emod_of_nonneg (by omega), Int.tmod_eq_emod_of_nonneg (by omega)]
    omega
theorem facts32 (x : Int) (hx : 0 ≤ x ∧ x ≤ 18446744073709551615) : ∃ y z : Int, alu_Swap.f x 32 = some y ∧ slotcoderef06_Swap.f 200 x 32 = some y ∧ alu_Swap.f y 32 = some z ∧ slotcoderef01_Extend.f 199 z 32 = slotcoderef01_Extend.f 199 x 32 := by
  obtain ⟨b0, b1, b2, b3, b4, b5, b6, b7, h0, h1, h2, h3, h4, h5, h6, h7, hxe⟩ := bytes_of x hx.1 hx.2
  have hrev := rev_bytes b0 b1 b2 b3 b4 b5 b6 b7 h0 h1 h2 h3 h4 h5 h6 h7
  have hr := rswap32 b0 b1 b2 b3 b4 b5 b6 b7 h0 h1 h2 h3 h4 h5 h6 h7
  rw [← hxe] at hrev hr
  have hrev2 := rev_bytes b3 b2 b1 b0 0 0 0 0 h3 h2 h1 h0 (by omega) (by omega) (by omega) (by omega)
  obtain ⟨y, hy⟩ : ∃ y : Int, y = ((b3 + 256 * b2 + 65536 * b1 + 16777216 * b0 : Nat) : Int) := ⟨_, rfl⟩
  obtain ⟨z, hz⟩ : ∃ z : Int, z = ((b0 + 256 * b1 + 65536 * b2 + 16777216 * b3 : Nat) : Int) := ⟨_, rfl⟩
  have hyx : ((b3 + 256 * b2 + 65536 * b1 + 16777216 * b0 + 4294967296 * 0 + 1099511627776 * 0 + 281474976710656 * 0 + 72057594037927936 * 0 : Nat) : Int) = y := by rw [hy]; omega
  rw [hyx] at hrev2
  rw [← hy] at hr
  refine ⟨y, z, ?_, hr, ?_, ?_⟩
  · rw [swap32 _ _ hrev, hy]
    congr 1
    unfold revN
    omega
  · rw [swap32 _ _ hrev2, hz]
    congr 1
    unfold revN
    omega
  · refine ext_tmod 199 z x 32 (fun p hp => ?_) (fun h => by omega)
    rw [pow32] at hp
    obtain rfl := Option.some.inj hp
    rw [Int.tmod_eq_emod_of_nonneg (by omega), Int.tmod_eq_emod_of_nonneg (by omega)]
    omega
theorem facts64 (x : Int) (hx : 0 ≤ x ∧ x ≤ 18446744073709551615) : ∃ y z : Int, alu_Swap.f x 64 = some y ∧ slotcoderef06_Swap.f 200 x 64 = some y ∧ alu_Swap.f y 64 = some z ∧ slotcoderef01_Extend.f 199 z 64 = slotcoderef01_Extend.f 199 x 64 := by
  obtain ⟨b0, b1, b2, b3, b4, b5, b6, b7, h0, h1, h2, h3, h4, h5, h6, h7, hxe⟩ := bytes_of x hx.1 hx.2
  have hrev := rev_bytes b0 b1 b2 b3 b4 b5 b6 b7 h0 h1 h2 h3 h4 h5 h6 h7
  have hr := rswap64 b0 b1 b2 b3 b4 b5 b6 b7 h0 h1 h2 h3 h4 h5 h6 h7
  rw [← hxe] at hrev hr
  have hrev2 := rev_bytes b7 b6 b5 b4 b3 b2 b1 b0 h7 h6 h5 h4 h3 h2 h1 h0
  obtain ⟨y, hy⟩ : ∃ y : Int, y = ((b7 + 256 * b6 + 65536 * b5 + 16777216 * b4 + 4294967296 * b3 + 1099511627776 * b2 + 281474976710656 * b1 + 72057594037927936 * b0 : Nat) : Int) := ⟨_, rfl⟩
  obtain ⟨z, hz⟩ : ∃ z : Int, z = ((b0 + 256 * b1 + 65536 * b2 + 16777216 * b3 + 4294967296 * b4 + 1099511627776 * b5 + 281474976710656 * b6 + 72057594037927936 * b7 : Nat) : Int) := ⟨_, rfl⟩
  have hyx : ((b7 + 256 * b6 + 65536 * b5 + 16777216 * b4 + 4294967296 * b3 + 1099511627776 * b2 + 281474976710656 * b1 + 72057594037927936 * b0 : Nat) : Int) = y := by rw [hy]
  rw [hyx] at hrev2
  rw [← hy] at hr
  refine ⟨y, z, ?_, hr, ?_, ?_⟩
  · rw [swap64 _ _ hrev, hy]
    congr 1
    unfold revN
    omega
  · rw [swap64 _ _ hrev2, hz]
    congr 1
    unfold revN
    omega
  · rw [show z = x by omega]
end Go.Proofs.YtnllfppkfdnjpabDoor.Q
