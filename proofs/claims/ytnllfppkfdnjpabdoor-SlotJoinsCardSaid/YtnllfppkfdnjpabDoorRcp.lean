/- The reference's Dst, Src, Off, Imm, register. -/
import Derived.Test.YtnllfppkfdnjpabDoorChk
import Derived.Deep.QuietTactic
import Derived.BigQuiet
import Derived.WalkSmall
import Derived.Test.YtnllfppkfdnjpabDoorKx3
import Derived.Test.YtnllfppkfdnjpabDoorKx2h
namespace Go.Proofs.YtnllfppkfdnjpabDoor.Q
open Go Go.RowKit Go.Proofs.YtnllfppkfdnjpabDoor.Ops Go.Proofs.YtnllfppkfdnjpabDoorW.PrintWords

theorem rform_all : (List.range 86).map (fun n => slotcoderef03_Form.f 5 (Int.ofNat n)) = (List.range 86).map (fun n => some (formS (Int.ofNat n))) := by kernel_rfl
theorem right_f (n : Int) : slotcoderef03_Right.f n = some (decide (Is n)) := by
  unfold slotcoderef03_Right.f
  by_cases h0 : n ≥ 0
  · rw [if_pos h0]
    congr 1
    rw [decide_eq_decide]
    exact ⟨fun h => ⟨h0, by omega⟩, fun h => by have := h.2; omega⟩
  · rw [if_neg h0]
    congr 1
    rw [eq_comm, decide_eq_false_iff_not]
    exact fun h => h0 h.1
theorem form_f (k : Nat) (hk : 5 ≤ k) (n : Int) : slotcoderef03_Form.f k n = some (formS n) := by
  refine at_rounds (g := fun k => slotcoderef03_Form.f k n) (fun k => slotcoderef03_Form.mono n k) hk ?_
  by_cases h : Is n
  · exact in_rangeQ (f := fun n => slotcoderef03_Form.f 5 n) (g := fun n => some (formS n)) rform_all n h
  · show slotcoderef03_Form.f 5 n = _
    unfold slotcoderef03_Form.f
    rw [right_f, decide_eq_false h]
    simp only [Option.bind_some, Bool.false_eq_true, if_false, formS_out h]
theorem dst_f (o : Int) (r : Bool) : slotcoderef04_Dst.f 40 o = some (usesT (formS o) r).1 := by
  unfold slotcoderef04_Dst.f
  rw [form_f 40 (by omega)]
  simp only [Option.bind_some]
  refine form_cases (C := fun t => ((slotcoderef04_in.f 40 t [0, 1, 2, 4, 7, 8, 9, 10, 11]).bind fun t' => some t') = some (usesT t r).1) (fun t ht => ?_) o
  simp only [List.mem_cons, List.not_mem_nil, or_false] at ht
  rcases ht with rfl | rfl | rfl | rfl | rfl | rfl | rfl | rfl | rfl | rfl | rfl | rfl | rfl <;> cases r <;> kernel_rfl
theorem src_f (o : Int) (r : Bool) : slotcoderef04_Src.f 40 o r = some (usesT (formS o) r).2.1 := by
  unfold slotcoderef04_Src.f
  rw [form_f 40 (by omega)]
  simp only [Option.bind_some]
  refine form_cases (C := fun t => ((slotcoderef04_in.f 40 t [2, 7, 9]).bind fun t112 => (if t112 = true then (some true) else (if r = true then ((slotcoderef04_in.f 40 t [0, 4]).bind fun t116 => (some t116)) else (some false)))) = some (usesT t r).2.1) (fun t ht => ?_) o
  simp only [List.mem_cons, List.not_mem_nil, or_false] at ht
  rcases ht with rfl | rfl | rfl | rfl | rfl | rfl | rfl | rfl | rfl | rfl | rfl | rfl | rfl <;> cases r <;> kernel_rfl
theorem off_f (o : Int) (r : Bool) : slotcoderef04_Off.f 40 o = some (usesT (formS o) r).2.2.1 := by
  unfold slotcoderef04_Off.f
  rw [form_f 40 (by omega)]
  simp only [Option.bind_some]
  refine form_cases (C := fun t => ((slotcoderef04_in.f 40 t [3, 4, 7, 8, 9]).bind fun t' => some t') = some (usesT t r).2.2.1) (fun t ht => ?_) o
  simp only [List.mem_cons, List.not_mem_nil, or_false] at ht
  rcases ht with rfl | rfl | rfl | rfl | rfl | rfl | rfl | rfl | rfl | rfl | rfl | rfl | rfl <;> cases r <;> kernel_rfl
theorem imm_f (o : Int) (r : Bool) : slotcoderef04_Imm.f 40 o r = some (usesT (formS o) r).2.2.2 := by
  unfold slotcoderef04_Imm.f
  rw [form_f 40 (by omega)]
  simp only [Option.bind_some]
  refine form_cases (C := fun t => ((slotcoderef04_in.f 40 t [5, 8, 10, 11]).bind fun t126 => (if t126 = true then (some true) else (if r = true then (some false) else ((slotcoderef04_in.f 40 t [0, 4]).bind fun t130 => (some t130))))) = some (usesT t r).2.2.2) (fun t ht => ?_) o
  simp only [List.mem_cons, List.not_mem_nil, or_false] at ht
  rcases ht with rfl | rfl | rfl | rfl | rfl | rfl | rfl | rfl | rfl | rfl | rfl | rfl | rfl <;> cases r <;> kernel_rfl
theorem register_f (n : Int) : slotcoderef04_register.f n = some (regB n) := by
  unfold slotcoderef04_register.f regB
  by_cases h : n ≥ 0
  · rw [if_pos h, decide_eq_true (show 0 ≤ n by omega), Bool.true_and]
    congr 1
    rw [decide_eq_decide]
    omega
  · rw [if_neg h, decide_eq_false (show ¬ 0 ≤ n by omega), Bool.false_and]

end Go.Proofs.YtnllfppkfdnjpabDoor.Q
