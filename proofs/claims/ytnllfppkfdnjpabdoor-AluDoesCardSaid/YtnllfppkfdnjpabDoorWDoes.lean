/- The law AluDoes: what the printed function says is always true; its walk. -/
import Derived.Test.YtnllfppkfdnjpabDoorPDoes2
import Derived.Test.YtnllfppkfdnjpabDoorJx3s
import Derived.OpenShut
namespace Go.Proofs.YtnllfppkfdnjpabDoor.Q
open Go Go.RowKit Go.Proofs.YtnllfppkfdnjpabDoor.Ops Go.Proofs.YtnllfppkfdnjpabDoorW.PrintWords

theorem un_form : (List.range 86).map (fun n => formS (Int.ofNat n) == 1) = (List.range 86).map (fun n => decide (28 ≤ Int.ofNat n) && (decide (Int.ofNat n ≤ 29) || decide (35 ≤ Int.ofNat n) && decide (Int.ofNat n ≤ 43))) := by kernel_rfl
theorem ex_form : (List.range 86).map (fun n => formS (Int.ofNat n) == 2) = (List.range 86).map (fun n => decide (30 ≤ Int.ofNat n) && decide (Int.ofNat n ≤ 34)) := by kernel_rfl
theorem form1 {o : Int} (h : formS o = 1) : o = 28 ∨ o = 29 ∨ o = 35 ∨ o = 36 ∨ o = 37 ∨ o = 38 ∨ o = 39 ∨ o = 40 ∨ o = 41 ∨ o = 42 ∨ o = 43 := by
  by_cases hi : Is o
  · have e := in_rangeC (f := fun n => formS n == 1) (g := fun n => decide (28 ≤ n) && (decide (n ≤ 29) || decide (35 ≤ n) && decide (n ≤ 43))) un_form o hi
    rw [h] at e
    simp at e
    omega
  · rw [formS_outC hi] at h; omega
theorem form2 {o : Int} (h : formS o = 2) : o = 30 ∨ o = 31 ∨ o = 32 ∨ o = 33 ∨ o = 34 := by
  by_cases hi : Is o
  · have e := in_rangeC (f := fun n => formS n == 2) (g := fun n => decide (30 ≤ n) && decide (n ≤ 34)) ex_form o hi
    rw [h] at e
    simp at e
    omega
  · rw [formS_outC hi] at h; omega
theorem aluLow_f {n : Int} (hn : n = 16 ∨ n = 32 ∨ n = 64) (x : Int) (_ : 0 ≤ x ∧ x < 18446744073709551616) : alu_low.f x n = some (x % pw n) := by
  unfold alu_low.f
  rcases hn with rfl | rfl | rfl
  · rw [show wrap64 (64 - 16) = ((48 : Nat) : Int) from by unfold wrap64; omega, if_pos (by omega), shlU _ 48 48 281474976710656 (by omega) rfl (by decide), shrC _ 48 48 281474976710656 (by omega) rfl (by decide), show pw 16 = 65536 from rfl]
    congr 1; omega
  · rw [show wrap64 (64 - 32) = ((32 : Nat) : Int) from by unfold wrap64; omega, if_pos (by omega), shlU _ 32 32 4294967296 (by omega) rfl (by decide), shrC _ 32 32 4294967296 (by omega) rfl (by decide), show pw 32 = 4294967296 from rfl]
    congr 1; omega
  · rw [show wrap64 (64 - 64) = ((0 : Nat) : Int) from by unfold wrap64; omega, if_pos (by omega), shlU _ 0 0 1 (by omega) rfl (by decide), shrC _ 0 0 1 (by omega) rfl (by decide), show pw 64 = 18446744073709551616 from rfl]
    congr 1; omega
theorem refLow_f {n : Int} (hn : n = 16 ∨ n = 32 ∨ n = 64) (x : Int) (h : 0 ≤ x ∧ x < 18446744073709551616) : slotcoderef06_low.f 200 x n = some (x % pw n) := by
  unfold slotcoderef06_low.f
  have p16 : slotcoderef01_Power.f 200 16 = some 65536 := power_f 200 16 (by omega) (by omega)
  have p32 : slotcoderef01_Power.f 200 32 = some 4294967296 := power_f 200 32 (by omega) (by omega)
  rcases hn with rfl | rfl | rfl
  · rw [if_neg (by omega), p16]
    simp only [Option.bind_some]
    rw [if_neg (by omega), Int.tmod_eq_emod_of_nonneg h.1]
    rfl
  · rw [if_neg (by omega), p32]
    simp only [Option.bind_some]
    rw [if_neg (by omega), Int.tmod_eq_emod_of_nonneg h.1]
    rfl
  · rw [if_pos rfl, show pw 64 = 18446744073709551616 from rfl]
    congr 1; omega
theorem wrap_in (x : Int) : 0 ≤ IntKind.u64.wrap x ∧ IntKind.u64.wrap x < 18446744073709551616 := by rw [u64C]; omega
theorem swap_same {n : Int} (hn : n = 16 ∨ n = 32 ∨ n = 64) (A : Int) (hA : 0 ≤ A ∧ A < 18446744073709551616) : ∃ y, alu_Swap.f A n = some y ∧ slotcoderef06_Swap.f 200 A n = some y := by
  rcases hn with rfl | rfl | rfl
  · obtain ⟨y, z, e1, e2, _⟩ := facts16 A ⟨hA.1, by omega⟩; exact ⟨y, e1, e2⟩
  · obtain ⟨y, z, e1, e2, _⟩ := facts32 A ⟨hA.1, by omega⟩; exact ⟨y, e1, e2⟩
  · obtain ⟨y, z, e1, e2, _⟩ := facts64 A ⟨hA.1, by omega⟩; exact ⟨y, e1, e2⟩
/-- Program and reference do the same. -/
def Same (o : Int) (r : Bool) (d s f i A B : Int) : Prop := ∃ q t, alu_Do.f o r d s f i A B = some (q, t) ∧ slotcoderef06_Do.f 200 o r d s f i A B = some (q, t)
theorem same30 (r : Bool) (d s f i A B : Int) (hB : 0 ≤ B ∧ B < 18446744073709551616) : Same 30 r d s f i A B := by
  have e1 : alu_Do.f 30 r d s f i A B = (num_Extend.f B 8).bind fun t => (alu_low.f (IntKind.u64.wrap t) 64).bind fun q => some (q, true) := by cases r <;> kernel_rfl
  have e2 : slotcoderef06_Do.f 200 30 r d s f i A B = (slotcoderef01_Extend.f 200 B 8).bind fun t => (slotcoderef06_low.f 200 (IntKind.u64.wrap t) 64).bind fun q => some (q, true) := by cases r <;> kernel_rfl
  rw [numExt (by omega) B hB] at e1
  rw [refExt (by omega) B hB 200 (by omega)] at e2
  simp only [Option.bind_some, aluLow_f (n := 64) (by omega) _ (wrap_in _)] at e1
  simp only [Option.bind_some, refLow_f (n := 64) (by omega) _ (wrap_in _)] at e2
  exact ⟨_, _, e1, e2⟩
theorem same31 (r : Bool) (d s f i A B : Int) (hB : 0 ≤ B ∧ B < 18446744073709551616) : Same 31 r d s f i A B := by
  have e1 : alu_Do.f 31 r d s f i A B = (num_Extend.f B 16).bind fun t => (alu_low.f (IntKind.u64.wrap t) 64).bind fun q => some (q, true) := by cases r <;> kernel_rfl
  have e2 : slotcoderef06_Do.f 200 31 r d s f i A B = (slotcoderef01_Extend.f 200 B 16).bind fun t => (slotcoderef06_low.f 200 (IntKind.u64.wrap t) 64).bind fun q => some (q, true) := by cases r <;> kernel_rfl
  rw [numExt (by omega) B hB] at e1
  rw [refExt (by omega) B hB 200 (by omega)] at e2
  simp only [Option.bind_some, aluLow_f (n := 64) (by omega) _ (wrap_in _)] at e1
  simp only [Option.bind_some, refLow_f (n := 64) (by omega) _ (wrap_in _)] at e2
  exact ⟨_, _, e1, e2⟩
theorem same32 (r : Bool) (d s f i A B : Int) (hB : 0 ≤ B ∧ B < 18446744073709551616) : Same 32 r d s f i A B := by
  have e1 : alu_Do.f 32 r d s f i A B = (num_Extend.f B 32).bind fun t => (alu_low.f (IntKind.u64.wrap t) 64).bind fun q => some (q, true) := by cases r <;> kernel_rfl
  have e2 : slotcoderef06_Do.f 200 32 r d s f i A B = (slotcoderef01_Extend.f 200 B 32).bind fun t => (slotcoderef06_low.f 200 (IntKind.u64.wrap t) 64).bind fun q => some (q, true) := by cases r <;> kernel_rfl
  rw [numExt (by omega) B hB] at e1
  rw [refExt (by omega) B hB 200 (by omega)] at e2
  simp only [Option.bind_some, aluLow_f (n := 64) (by omega) _ (wrap_in _)] at e1
  simp only [Option.bind_some, refLow_f (n := 64) (by omega) _ (wrap_in _)] at e2
  exact ⟨_, _, e1, e2⟩
theorem same33 (r : Bool) (d s f i A B : Int) (hB : 0 ≤ B ∧ B < 18446744073709551616) : Same 33 r d s f i A B := by
  have e1 : alu_Do.f 33 r d s f i A B = (num_Extend.f B 8).bind fun t => (alu_low.f (IntKind.u64.wrap t) 32).bind fun q => some (q, true) := by cases r <;> kernel_rfl
  have e2 : slotcoderef06_Do.f 200 33 r d s f i A B = (slotcoderef01_Extend.f 200 B 8).bind fun t => (slotcoderef06_low.f 200 (IntKind.u64.wrap t) 32).bind fun q => some (q, true) := by cases r <;> kernel_rfl
  rw [numExt (by omega) B hB] at e1
  rw [refExt (by omega) B hB 200 (by omega)] at e2
  simp only [Option.bind_some, aluLow_f (n := 32) (by omega) _ (wrap_in _)] at e1
  simp only [Option.bind_some, refLow_f (n := 32) (by omega) _ (wrap_in _)] at e2
  exact ⟨_, _, e1, e2⟩
theorem same34 (r : Bool) (d s f i A B : Int) (hB : 0 ≤ B ∧ B < 18446744073709551616) : Same 34 r d s f i A B := by
  have e1 : alu_Do.f 34 r d s f i A B = (num_Extend.f B 16).bind fun t => (alu_low.f (IntKind.u64.wrap t) 32).bind fun q => some (q, true) := by cases r <;> kernel_rfl
  have e2 : slotcoderef06_Do.f 200 34 r d s f i A B = (slotcoderef01_Extend.f 200 B 16).bind fun t => (slotcoderef06_low.f 200 (IntKind.u64.wrap t) 32).bind fun q => some (q, true) := by cases r <;> kernel_rfl
  rw [numExt (by omega) B hB] at e1
  rw [refExt (by omega) B hB 200 (by omega)] at e2
  simp only [Option.bind_some, aluLow_f (n := 32) (by omega) _ (wrap_in _)] at e1
  simp only [Option.bind_some, refLow_f (n := 32) (by omega) _ (wrap_in _)] at e2
  exact ⟨_, _, e1, e2⟩
theorem same28 (r : Bool) (d s f i A B : Int) : Same 28 r d s f i A B := by
  have e1 : alu_Do.f 28 r d s f i A B = (alu_low.f (IntKind.u64.wrap (-A)) 64).bind fun q => some (q, true) := by cases r <;> kernel_rfl
  have e2 : slotcoderef06_Do.f 200 28 r d s f i A B = (slotcoderef06_low.f 200 (IntKind.u64.wrap (-A)) 64).bind fun q => some (q, true) := by cases r <;> kernel_rfl
  rw [aluLow_f (by omega) _ (wrap_in _)] at e1
  rw [refLow_f (by omega) _ (wrap_in _)] at e2
  exact ⟨_, _, e1, e2⟩
theorem same29 (r : Bool) (d s f i A B : Int) : Same 29 r d s f i A B := by
  have e1 : alu_Do.f 29 r d s f i A B = (alu_low.f (IntKind.u64.wrap (-A)) 32).bind fun q => some (q, true) := by cases r <;> kernel_rfl
  have e2 : slotcoderef06_Do.f 200 29 r d s f i A B = (slotcoderef06_low.f 200 (IntKind.u64.wrap (-A)) 32).bind fun q => some (q, true) := by cases r <;> kernel_rfl
  rw [aluLow_f (by omega) _ (wrap_in _)] at e1
  rw [refLow_f (by omega) _ (wrap_in _)] at e2
  exact ⟨_, _, e1, e2⟩
theorem same35 (r : Bool) (d s f i A B : Int) (hA : 0 ≤ A ∧ A < 18446744073709551616) : Same 35 r d s f i A B := by
  have e1 : alu_Do.f 35 r d s f i A B = (alu_low.f A 16).bind fun q => some (q, true) := by cases r <;> kernel_rfl
  have e2 : slotcoderef06_Do.f 200 35 r d s f i A B = (slotcoderef06_low.f 200 A 16).bind fun q => some (q, true) := by cases r <;> kernel_rfl
  rw [aluLow_f (by omega) _ hA] at e1
  rw [refLow_f (by omega) _ hA] at e2
  exact ⟨_, _, e1, e2⟩
theorem same36 (r : Bool) (d s f i A B : Int) (hA : 0 ≤ A ∧ A < 18446744073709551616) : Same 36 r d s f i A B := by
  have e1 : alu_Do.f 36 r d s f i A B = (alu_low.f A 32).bind fun q => some (q, true) := by cases r <;> kernel_rfl
  have e2 : slotcoderef06_Do.f 200 36 r d s f i A B = (slotcoderef06_low.f 200 A 32).bind fun q => some (q, true) := by cases r <;> kernel_rfl
  rw [aluLow_f (by omega) _ hA] at e1
  rw [refLow_f (by omega) _ hA] at e2
  exact ⟨_, _, e1, e2⟩
theorem same37 (r : Bool) (d s f i A B : Int) (hA : 0 ≤ A ∧ A < 18446744073709551616) : Same 37 r d s f i A B := by
  have e1 : alu_Do.f 37 r d s f i A B = (alu_low.f A 64).bind fun q => some (q, true) := by cases r <;> kernel_rfl
  have e2 : slotcoderef06_Do.f 200 37 r d s f i A B = (slotcoderef06_low.f 200 A 64).bind fun q => some (q, true) := by cases r <;> kernel_rfl
  rw [aluLow_f (by omega) _ hA] at e1
  rw [refLow_f (by omega) _ hA] at e2
  exact ⟨_, _, e1, e2⟩
theorem same38 (r : Bool) (d s f i A B : Int) (hA : 0 ≤ A ∧ A < 18446744073709551616) : Same 38 r d s f i A B := by
  have e1 : alu_Do.f 38 r d s f i A B = (alu_Swap.f A 16).bind fun q => some (q, true) := by cases r <;> kernel_rfl
  have e2 : slotcoderef06_Do.f 200 38 r d s f i A B = (slotcoderef06_Swap.f 200 A 16).bind fun q => some (q, true) := by cases r <;> kernel_rfl
  obtain ⟨y, h1, h2⟩ := swap_same (n := 16) (by omega) A hA
  rw [h1] at e1
  rw [h2] at e2
  exact ⟨_, _, e1, e2⟩
theorem same39 (r : Bool) (d s f i A B : Int) (hA : 0 ≤ A ∧ A < 18446744073709551616) : Same 39 r d s f i A B := by
  have e1 : alu_Do.f 39 r d s f i A B = (alu_Swap.f A 32).bind fun q => some (q, true) := by cases r <;> kernel_rfl
  have e2 : slotcoderef06_Do.f 200 39 r d s f i A B = (slotcoderef06_Swap.f 200 A 32).bind fun q => some (q, true) := by cases r <;> kernel_rfl
  obtain ⟨y, h1, h2⟩ := swap_same (n := 32) (by omega) A hA
  rw [h1] at e1
  rw [h2] at e2
  exact ⟨_, _, e1, e2⟩
theorem same40 (r : Bool) (d s f i A B : Int) (hA : 0 ≤ A ∧ A < 18446744073709551616) : Same 40 r d s f i A B := by
  have e1 : alu_Do.f 40 r d s f i A B = (alu_Swap.f A 64).bind fun q => some (q, true) := by cases r <;> kernel_rfl
  have e2 : slotcoderef06_Do.f 200 40 r d s f i A B = (slotcoderef06_Swap.f 200 A 64).bind fun q => some (q, true) := by cases r <;> kernel_rfl
  obtain ⟨y, h1, h2⟩ := swap_same (n := 64) (by omega) A hA
  rw [h1] at e1
  rw [h2] at e2
  exact ⟨_, _, e1, e2⟩
theorem same41 (r : Bool) (d s f i A B : Int) (hA : 0 ≤ A ∧ A < 18446744073709551616) : Same 41 r d s f i A B := by
  have e1 : alu_Do.f 41 r d s f i A B = (alu_Swap.f A 16).bind fun q => some (q, true) := by cases r <;> kernel_rfl
  have e2 : slotcoderef06_Do.f 200 41 r d s f i A B = (slotcoderef06_Swap.f 200 A 16).bind fun q => some (q, true) := by cases r <;> kernel_rfl
  obtain ⟨y, h1, h2⟩ := swap_same (n := 16) (by omega) A hA
  rw [h1] at e1
  rw [h2] at e2
  exact ⟨_, _, e1, e2⟩
theorem same42 (r : Bool) (d s f i A B : Int) (hA : 0 ≤ A ∧ A < 18446744073709551616) : Same 42 r d s f i A B := by
  have e1 : alu_Do.f 42 r d s f i A B = (alu_Swap.f A 32).bind fun q => some (q, true) := by cases r <;> kernel_rfl
  have e2 : slotcoderef06_Do.f 200 42 r d s f i A B = (slotcoderef06_Swap.f 200 A 32).bind fun q => some (q, true) := by cases r <;> kernel_rfl
  obtain ⟨y, h1, h2⟩ := swap_same (n := 32) (by omega) A hA
  rw [h1] at e1
  rw [h2] at e2
  exact ⟨_, _, e1, e2⟩
theorem same43 (r : Bool) (d s f i A B : Int) (hA : 0 ≤ A ∧ A < 18446744073709551616) : Same 43 r d s f i A B := by
  have e1 : alu_Do.f 43 r d s f i A B = (alu_Swap.f A 64).bind fun q => some (q, true) := by cases r <;> kernel_rfl
  have e2 : slotcoderef06_Do.f 200 43 r d s f i A B = (slotcoderef06_Swap.f 200 A 64).bind fun q => some (q, true) := by cases r <;> kernel_rfl
  obtain ⟨y, h1, h2⟩ := swap_same (n := 64) (by omega) A hA
  rw [h1] at e1
  rw [h2] at e2
  exact ⟨_, _, e1, e2⟩
theorem refOperand (o : Int) (r : Bool) (d s f i B : Int) (h : formS o ≠ 2) : slotcoderef06_Operand.f 200 o r d s f i B = some (opB r i B) := by
  unfold slotcoderef06_Operand.f opB
  cases r with
  | true => rfl
  | false => rw [form_fC 200 (by omega)]; simp [h]
theorem aluOperand (o : Int) (r : Bool) (d s f i B : Int) (h : formS o ≠ 2) : alu_Operand.f o r d s f i B = some (opB r i B) := by
  unfold alu_Operand.f opB ops_Form.f
  cases r with
  | true => rfl
  | false => simp [h]
theorem refBits (o : Int) : ∃ b, slotcoderef03_Bits.f 200 o = some b := by
  by_cases hi : Is o
  · exact ⟨_, in_rangeC (f := fun n => slotcoderef03_Bits.f 200 n) (g := fun n => some (bitsS n)) rbits_all o hi⟩
  · unfold slotcoderef03_Bits.f
    rw [right_fC, decide_eq_false hi]
    exact ⟨0, rfl⟩
theorem opB_in {r : Bool} {i B : Int} (hB : 0 ≤ B ∧ B < 18446744073709551616) : 0 ≤ opB r i B ∧ opB r i B < 18446744073709551616 := by
  unfold opB
  split
  · exact hB
  · exact wrap_in _
theorem same_other {o : Int} (r : Bool) (d s f i A B : Int) (h0 : formS o ≠ 0) (h1 : formS o ≠ 1) (h2 : formS o ≠ 2) : Same o r d s f i A B := by
  obtain ⟨b, hb⟩ := refBits o
  refine ⟨A, false, ?_, ?_⟩
  · unfold alu_Do.f ops_Bits.f
    rw [aluOperand o r d s f i B h2]
    unfold ops_Form.f
    simp only [Option.bind_some, if_neg h0, if_neg h1, if_neg h2]
  · unfold slotcoderef06_Do.f
    rw [refOperand o r d s f i B h2, hb, form_fC 200 (by omega)]
    simp only [Option.bind_some, if_neg h0, if_neg h1, if_neg h2]
theorem same_alu {o : Int} (r : Bool) (d s f i A B : Int) (h : formS o = 0) (hA : 0 ≤ A ∧ A < 18446744073709551616) (hB : 0 ≤ B ∧ B < 18446744073709551616) : Same o r d s f i A B := by
  have hr := (form0_iff o).1 h
  have hb0 := bits0 h
  have hO := opB_in (r := r) (i := i) hB
  have e2 : slotcoderef06_Do.f 200 o r d s f i A B = (slotcoderef06_low.f 200 A (bitsS o)).bind fun a => (slotcoderef06_low.f 200 (opB r i B) (bitsS o)).bind fun b => (slotcoderef06_binary.f 200 (Int.tmod o 14) a b (bitsS o)).bind fun q => (slotcoderef06_low.f 200 q (bitsS o)).bind fun q' => some (q', true) := by
    unfold slotcoderef06_Do.f
    rw [refOperand o r d s f i B (by omega), rbits0 h, form_fC 200 (by omega), h]
    simp only [Option.bind_some, if_true]
  by_cases h13 : o ≤ 13
  · rw [if_pos h13] at hb0
    rw [hb0] at e2
    have ht : Int.tmod o 14 = o := by rw [Int.tmod_eq_emod_of_nonneg hr.1]; omega
    obtain ⟨q, hq, q0, hc⟩ := b64 (i := o) ⟨hr.1, h13⟩ hA hO
    have l64 : ∀ x, slotcoderef06_low.f 200 x 64 = some x := fun x => by unfold slotcoderef06_low.f; rw [if_pos rfl]
    simp only [l64, Option.bind_some, ht, hq] at e2
    refine ⟨q, true, ?_, e2⟩
    unfold alu_Do.f ops_Bits.f
    rw [hb0, operand0 h]
    unfold ops_Form.f alu_compute_uint64.f
    simp only [Option.bind_some, h, if_true, Int.reduceEq, if_false, hc]
  · rw [if_neg h13] at hb0
    rw [hb0] at e2
    have ht : Int.tmod o 14 = wrap64 (o - 14) := by rw [Int.tmod_eq_emod_of_nonneg hr.1]; unfold wrap64; omega
    have hw : 0 ≤ wrap64 (o - 14) ∧ wrap64 (o - 14) ≤ 13 := by unfold wrap64; omega
    obtain ⟨q, hq, q0, hc⟩ := b32 (i := wrap64 (o - 14)) (a := A % 4294967296) (b := opB r i B % 4294967296) hw ⟨by omega, by omega⟩ ⟨by omega, by omega⟩
    have l32 : ∀ x, 0 ≤ x → slotcoderef06_low.f 200 x 32 = some (x % 4294967296) := fun x hx => (low_f (.inr rfl) 200 (by omega) x hx).trans rfl
    rw [l32 A hA.1, Option.bind_some, l32 _ hO.1, Option.bind_some, ht, hq, Option.bind_some, l32 q q0, Option.bind_some] at e2
    refine ⟨q % 4294967296, true, ?_, e2⟩
    rw [do32 h hb0, hc, Option.bind_some, show IntKind.u64.wrap (q % 4294967296) = q % 4294967296 by rw [u64C]; omega]
theorem same_all (o : Int) (r : Bool) (d s f i A B : Int) (hA : 0 ≤ A ∧ A < 18446744073709551616) (hB : 0 ≤ B ∧ B < 18446744073709551616) : Same o r d s f i A B := by
  by_cases h0 : formS o = 0
  · exact same_alu r d s f i A B h0 hA hB
  · by_cases h1 : formS o = 1
    · rcases form1 h1 with rfl | rfl | rfl | rfl | rfl | rfl | rfl | rfl | rfl | rfl | rfl
      · exact same28 r d s f i A B
      · exact same29 r d s f i A B
      · exact same35 r d s f i A B hA
      · exact same36 r d s f i A B hA
      · exact same37 r d s f i A B hA
      · exact same38 r d s f i A B hA
      · exact same39 r d s f i A B hA
      · exact same40 r d s f i A B hA
      · exact same41 r d s f i A B hA
      · exact same42 r d s f i A B hA
      · exact same43 r d s f i A B hA
    · by_cases h2 : formS o = 2
      · rcases form2 h2 with rfl | rfl | rfl | rfl | rfl
        · exact same30 r d s f i A B hB
        · exact same31 r d s f i A B hB
        · exact same32 r d s f i A B hB
        · exact same33 r d s f i A B hB
        · exact same34 r d s f i A B hB
      · exact same_other r d s f i A B h0 h1 h2
theorem aluDoes_true (o : Int) (r : Bool) (d s f i A B : Int) (hA : 0 ≤ A ∧ A ≤ 18446744073709551615) (hB : 0 ≤ B ∧ B ≤ 18446744073709551615) : slotcodelaw06_AluDoes.f 200 o r d s f i A B = some true := by
  obtain ⟨q, t, e1, e2⟩ := same_all o r d s f i A B ⟨hA.1, by omega⟩ ⟨hB.1, by omega⟩
  unfold slotcodelaw06_AluDoes.f slotcodelaw06_alive.f
  rw [e1, e2]
  simp
end Go.Proofs.YtnllfppkfdnjpabDoor.Q
namespace Go.Proofs.YtnllfppkfdnjpabDoor.L
open Go Go.RowKit Go.Proofs.YtnllfppkfdnjpabDoor.Ops Go.Proofs.YtnllfppkfdnjpabDoor.Q Go.Proofs.YtnllfppkfdnjpabDoorW.PrintWords

theorem aluDoes_walk (w : World) (hG : GG w) (o : Int) (r : Bool) (d s f i A B : Int) (q : ((Lit.int .i64 o).wf = true ∧ True ∧ (Lit.int .i64 d).wf = true ∧ (Lit.int .i64 s).wf = true ∧ (Lit.int .i64 f).wf = true ∧ (Lit.int .i64 i).wf = true) ∧ (Lit.int .u64 A).wf = true ∧ (Lit.int .u64 B).wf = true) :
    Calls Tryd.prog 3 #[.agg #[.int .i64 o, .bool r, .int .i64 d, .int .i64 s, .int .i64 f, .int .i64 i, .int .u64 A, .int .u64 B]] w fun e w' => e = .returned (.bool true) ∧ Below w.heap.size w w' :=
  slotcodelaw06_AluDoes.calls 200 o r d s f i A B true w (aluDoes_true o r d s f i A B (bounds_u64 q.2.1) (bounds_u64 q.2.2)) hG
end Go.Proofs.YtnllfppkfdnjpabDoor.L
