/- The reference's Holds is Holds; the pairs of conditions: plain laws. -/
import Derived.Test.YtnllfppkfdnjpaaDoorPSet
namespace Go.Proofs.YtnllfppkfdnjpaaDoor.Q
open Go Go.RowKit Go.Proofs.YtnllfppkfdnjpaaDoor.Ops Go.Proofs.YtnllfppkfdnjpaaDoorW.PrintWords

theorem rform_allC : (List.range 86).map (fun n => slotcoderef03_Form.f 5 (Int.ofNat n)) = (List.range 86).map (fun n => some (formS (Int.ofNat n))) := by kernel_rfl
theorem right_fC (n : Int) : slotcoderef03_Right.f n = some (decide (Is n)) := by
  unfold slotcoderef03_Right.f
  by_cases h0 : n ≥ 0
  · rw [if_pos h0]
    congr 1
    rw [decide_eq_decide]
    exact ⟨fun h => ⟨h0, by omega⟩, fun h => by have := h.2; omega⟩
  · rw [if_neg h0]
    congr 1
    rw [eq_comm, decide_eq_false_iff_not]
    exact fun h => h0 h.1
theorem form_fC (k : Nat) (hk : 5 ≤ k) (n : Int) : slotcoderef03_Form.f k n = some (formS n) := by
  refine at_rounds (g := fun k => slotcoderef03_Form.f k n) (fun k => slotcoderef03_Form.mono n k) hk ?_
  by_cases h : Is n
  · exact in_rangeC (f := fun n => slotcoderef03_Form.f 5 n) (g := fun n => some (formS n)) rform_allC n h
  · show slotcoderef03_Form.f 5 n = _
    unfold slotcoderef03_Form.f
    rw [right_fC, decide_eq_false h]
    simp only [Option.bind_some, Bool.false_eq_true, if_false, formS_outC h]
theorem rbits_all : (List.range 86).map (fun n => slotcoderef03_Bits.f 200 (Int.ofNat n)) = (List.range 86).map (fun n => some (bitsS (Int.ofNat n))) := by kernel_rfl
theorem rbits_f {o : Int} (h : formS o = 4) : slotcoderef03_Bits.f 200 o = some (bitsS o) := by
  obtain ⟨h1, h2⟩ := (form4_iff o).1 h
  exact in_rangeC (f := fun n => slotcoderef03_Bits.f 200 n) (g := fun n => some (bitsS n)) rbits_all o ⟨by omega, by omega⟩

def lo (n x : Int) : Int := if n = 64 then x else x % 4294967296
def hf (n : Int) : Int := if n = 64 then 9223372036854775808 else 2147483648
theorem low_f {n : Int} (hn : n = 64 ∨ n = 32) (x : Int) (h : 0 ≤ x) : slotcoderef07_low.f 200 x n = some (lo n x) := by
  unfold slotcoderef07_low.f lo
  rcases hn with rfl | rfl
  · rfl
  · rw [if_neg (by omega), if_neg (by omega), show slotcoderef01_Power.f 200 32 = some 4294967296 from by kernel_rfl]
    simp only [Option.bind_some, if_neg (show ¬ (4294967296 : Int) = 0 by omega), Int.tmod_eq_emod_of_nonneg h]
theorem half_f {n : Int} (hn : n = 64 ∨ n = 32) : slotcoderef07_half.f 200 n = some (hf n) := by
  rcases hn with rfl | rfl <;> kernel_rfl
/-- The reference's condition. -/
def condR (c n a b : Int) : Bool :=
  if c = 0 then a == b else if c = 1 then decide (a > b) else if c = 2 then decide (a ≥ b) else if c = 3 then setN a b else if c = 4 then a != b
  else if c = 5 then decide (lo n (IntKind.u64.wrap (a + hf n)) > lo n (IntKind.u64.wrap (b + hf n))) else if c = 6 then decide (lo n (IntKind.u64.wrap (a + hf n)) ≥ lo n (IntKind.u64.wrap (b + hf n)))
  else if c = 7 then decide (a < b) else if c = 8 then decide (a ≤ b) else if c = 9 then decide (lo n (IntKind.u64.wrap (a + hf n)) < lo n (IntKind.u64.wrap (b + hf n))) else decide (lo n (IntKind.u64.wrap (a + hf n)) ≤ lo n (IntKind.u64.wrap (b + hf n)))
theorem wrap_nonneg (x : Int) : 0 ≤ IntKind.u64.wrap x := by rw [u64C]; omega
theorem condition_f {c n a b : Int} (hn : n = 64 ∨ n = 32) (c0 : 0 ≤ c) (c1 : c ≤ 10) (ha : 0 ≤ a ∧ a < 18446744073709551616) (hb : 0 ≤ b ∧ b < 18446744073709551616) : slotcoderef07_Condition.f 200 c a b n = some (condR c n a b) := by
  unfold slotcoderef07_Condition.f condR
  rw [half_f hn]
  simp only [Option.bind_some, low_f hn _ (wrap_nonneg _), set200 a b ha hb]
  obtain rfl | rfl | rfl | rfl | rfl | rfl | rfl | rfl | rfl | rfl | rfl : c = 0 ∨ c = 1 ∨ c = 2 ∨ c = 3 ∨ c = 4 ∨ c = 5 ∨ c = 6 ∨ c = 7 ∨ c = 8 ∨ c = 9 ∨ c = 10 := by omega
  all_goals simp
theorem lo_range {n x : Int} (h : 0 ≤ x ∧ x ≤ 18446744073709551615) : 0 ≤ lo n x ∧ lo n x < 18446744073709551616 := by
  unfold lo
  split <;> omega
theorem rholds4 {o : Int} (r : Bool) (d s f i : Int) {A B : Int} (hA : 0 ≤ A ∧ A ≤ 18446744073709551615) (hB : 0 ≤ B ∧ B ≤ 18446744073709551615) {c n : Int} (hf : formS o = 4) (c0 : 0 ≤ c) (c1 : c ≤ 10) (hc : Int.tmod (wrap64 (o - 45)) 11 = c) (hn : bitsS o = n) (hn2 : n = 64 ∨ n = 32) :
    slotcoderef07_Holds.f 200 o r d s f i A B = some (condR c n (lo n A) (lo n (opB r i B))) := by
  have hO := opB_range (r := r) (i := i) hB
  have hop : slotcoderef06_Operand.f 200 o r d s f i B = some (opB r i B) := by
    unfold slotcoderef06_Operand.f opB
    cases r with
    | true => rfl
    | false => rw [form_fC 200 (by omega)]; simp [hf]
  have h44 : ¬ o = 44 := by have := (form4_iff o).1 hf; omega
  unfold slotcoderef07_Holds.f
  rw [if_neg h44, form_fC 200 (by omega), rbits_f hf, hf, hn, hop, hc]
  simp only [Option.bind_some, if_true, low_f hn2 _ hA.1, low_f hn2 _ hO.1, condition_f hn2 c0 c1 (lo_range hA) (lo_range hO)]

theorem cmp_l (a b : Int) : cmp3 a b true false false = decide (a < b) := by
  unfold cmp3; split <;> simp_all
theorem cmp_le (a b : Int) : cmp3 a b true true false = decide (a ≤ b) := by
  unfold cmp3
  split
  · simp; omega
  · split
    · simp; omega
    · simp; omega
theorem cmp_g (a b : Int) : cmp3 a b false false true = decide (a > b) := by
  unfold cmp3
  split
  · simp; omega
  · split
    · simp; omega
    · simp; omega
theorem cmp_ge (a b : Int) : cmp3 a b false true true = decide (a ≥ b) := by
  unfold cmp3
  split
  · simp; omega
  · split
    · simp; omega
    · simp; omega
theorem sx_64 (A : Int) : sx 64 A = wrap64 A := by unfold sx; rw [if_pos rfl]
theorem sx_32 (A : Int) : sx 32 A = if A % 4294967296 < 2147483648 then A % 4294967296 else A % 4294967296 - 4294967296 := by
  unfold sx wrap64
  rw [if_neg (by omega)]
  split <;> omega
theorem u64_range (x : Int) : 0 ≤ IntKind.u64.wrap x ∧ IntKind.u64.wrap x < 18446744073709551616 := by rw [u64C]; omega
theorem cond_eq {c n A B : Int} (hn : n = 64 ∨ n = 32) (c0 : 0 ≤ c) (c1 : c ≤ 10) (hA : 0 ≤ A ∧ A ≤ 18446744073709551615) (hB : 0 ≤ B ∧ B ≤ 18446744073709551615) : condS c n (sx n A) (sx n B) = condR c n (lo n A) (lo n B) := by
  rcases hn with rfl | rfl
  · have wa : IntKind.u64.wrap (sx 64 A) = A := by rw [sx_64, u64C]; unfold wrap64; omega
    have wb : IntKind.u64.wrap (sx 64 B) = B := by rw [sx_64, u64C]; unfold wrap64; omega
    unfold condS condR
    rw [wa, wb, cmp_l, cmp_le, cmp_g, cmp_ge, cmp_l, cmp_le, cmp_g, cmp_ge, set64 A B ⟨hA.1, by omega⟩ ⟨hB.1, by omega⟩, sx_64, sx_64]
    simp only [lo, hf, if_true, u64C]
    unfold wrap64
    obtain rfl | rfl | rfl | rfl | rfl | rfl | rfl | rfl | rfl | rfl | rfl : c = 0 ∨ c = 1 ∨ c = 2 ∨ c = 3 ∨ c = 4 ∨ c = 5 ∨ c = 6 ∨ c = 7 ∨ c = 8 ∨ c = 9 ∨ c = 10 := by omega
    all_goals (try rfl)
    all_goals (rw [Bool.eq_iff_iff]; simp; try omega)
  · have wa : IntKind.u64.wrap (sx 32 A) % 4294967296 = A % 4294967296 := by rw [sx_32, u64C]; split <;> omega
    have wb : IntKind.u64.wrap (sx 32 B) % 4294967296 = B % 4294967296 := by rw [sx_32, u64C]; split <;> omega
    unfold condS condR
    rw [cmp_l, cmp_le, cmp_g, cmp_ge, cmp_l, cmp_le, cmp_g, cmp_ge, set32 _ _ (u64_range _) (u64_range _), wa, wb]
    simp only [lo, hf, if_neg (show ¬ (32 : Int) = 64 by omega), u64C, sx_32]
    obtain rfl | rfl | rfl | rfl | rfl | rfl | rfl | rfl | rfl | rfl | rfl : c = 0 ∨ c = 1 ∨ c = 2 ∨ c = 3 ∨ c = 4 ∨ c = 5 ∨ c = 6 ∨ c = 7 ∨ c = 8 ∨ c = 9 ∨ c = 10 := by omega
    all_goals (try rfl)
    all_goals (rw [Bool.eq_iff_iff]; simp; (repeat' split) <;> omega)
end Go.Proofs.YtnllfppkfdnjpaaDoor.Q
