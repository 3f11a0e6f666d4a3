/- The slots of instructions, in the program and in the reference: plain laws. -/
import Derived.Test.YtcbhmnaakoegbaaDoorSlo
import Derived.Test.YtcbhmnaakoegbaaDoorYx4
import Derived.Test.YtcbhmnaakoegbaaDoorYx4
import Derived.Test.YtcbhmnaakoegbaaDoorYx3
namespace Go.Proofs.YtcbhmnaakoegbaaDoor.Q
open Go Go.RowKit Go.Proofs.YtcbhmnaakoegbaaDoor.Ops Go.Proofs.YtcbhmnaakoegbaaDoorW.PrintWords

theorem rform_all : (List.range 86).map (fun n => slotcoderef03_Form.f 5 (Int.ofNat n)) = (List.range 86).map (fun n => some (formS (Int.ofNat n))) := by kernel_rfl
theorem form_small : (List.range 86).map (fun n => decide (0 ≤ formS (Int.ofNat n)) && decide (formS (Int.ofNat n) ≤ 11)) = (List.range 86).map (fun _ => true) := by kernel_rfl
theorem right_f (n : Int) : slotcoderef03_Right.f n = some (decide (Is n)) := by
  unfold slotcoderef03_Right.f
  by_cases h0 : n ≥ 0
  · rw [if_pos h0]
    congr 1
    rw [decide_eq_decide]
    exact ⟨fun h => ⟨h0, by omega⟩, fun h => by have := h.2; omega⟩
  · rw [if_neg h0]
    congr 1
    rw [eq_comm, decide_eq_false_iff_not]
    exact fun h => h0 h.1
theorem in_rangeQ {α : Type} {f g : Int → α} (h : (List.range 86).map (fun n => f (Int.ofNat n)) = (List.range 86).map (fun n => g (Int.ofNat n))) (n : Int) (hn : Is n) : f n = g n := by
  obtain ⟨m, rfl⟩ := Int.eq_ofNat_of_zero_le hn.1
  exact of_range h m (by have := hn.2; omega)
theorem formS_out {n : Int} (h : ¬ Is n) : formS n = -1 := by simp only [formS, rowS, if_neg h]
theorem form_f (k : Nat) (hk : 5 ≤ k) (n : Int) : slotcoderef03_Form.f k n = some (formS n) := by
  refine at_rounds (g := fun k => slotcoderef03_Form.f k n) (fun k => slotcoderef03_Form.mono n k) hk ?_
  by_cases h : Is n
  · exact in_rangeQ (f := fun n => slotcoderef03_Form.f 5 n) (g := fun n => some (formS n)) rform_all n h
  · show slotcoderef03_Form.f 5 n = _
    unfold slotcoderef03_Form.f
    rw [right_f, decide_eq_false h]
    simp only [Option.bind_some, Bool.false_eq_true, if_false, formS_out h]
theorem formS_range (n : Int) : -1 ≤ formS n ∧ formS n ≤ 11 := by
  by_cases h : Is n
  · have := in_rangeQ (f := fun n => decide (0 ≤ formS n) && decide (formS n ≤ 11)) (g := fun _ => true) form_small n h
    simp only [Bool.and_eq_true, decide_eq_true_eq] at this
    omega
  · rw [formS_out h]; omega
theorem slots_f (k : Nat) (hk : 5 ≤ k) (n : Int) : slotcoderef04_Slots.f k n = some (slF n) := by
  unfold slotcoderef04_Slots.f
  rw [form_f k hk]
  simp only [Option.bind_some]
  have h1 := formS_range n
  by_cases h0 : Is n
  · have h2 := in_rangeQ (f := fun n => decide (0 ≤ formS n) && decide (formS n ≤ 11)) (g := fun _ => true) form_small n h0
    simp only [Bool.and_eq_true, decide_eq_true_eq] at h2
    rw [if_neg (show ¬ formS n < 0 by omega)]
    unfold slF
    by_cases h3 : formS n = 10
    · rw [h3]; rfl
    · by_cases h4 : formS n = 11
      · rw [h4]; rfl
      · rw [if_neg (show ¬ formS n ≥ 10 by omega), if_neg (show ¬ formS n = -1 by omega), if_neg h3, if_neg h4]
  · unfold slF
    rw [formS_out h0]
    rfl

theorem start_l0 (l : List S38) (hl : l.length ≤ 65536) (i : Nat) (hi : i ≤ l.length) : ∀ (d x k : Nat), x + d = i → d + 6 ≤ k → slotcoderef12_Start.l0 k l i (startF l x) x = some (startF l i)
  | 0, x, k, h, hk => by
    obtain ⟨k, rfl⟩ : ∃ m, k = m + 1 := ⟨k - 1, by omega⟩
    simp only [slotcoderef12_Start.l0]
    rw [if_neg (by omega)]
    have : x = i := by omega
    rw [this]
  | d + 1, x, k, h, hk => by
    obtain ⟨k, rfl⟩ : ∃ m, k = m + 1 := ⟨k - 1, by omega⟩
    have hw : wrap64 ((x : Int) + 1) = ((x + 1 : Nat) : Int) := by unfold wrap64; omega
    simp only [slotcoderef12_Start.l0]
    rw [if_pos (by omega), if_pos (by omega), if_pos (by omega), slots_f k (by omega)]
    simp only [Option.bind_some]
    rw [hw]
    exact start_l0 l hl i hi d (x + 1) k (by omega) (by omega)
theorem start_f (l : List S38) (hl : l.length ≤ 65536) (i : Nat) (hi : i ≤ l.length) (k : Nat) (hk : i + 6 ≤ k) : slotcoderef12_Start.f k l i = some (startF l i) := start_l0 l hl i hi i 0 k (by omega) hk

theorem alive20 : slotcodelaw12_alive.f 20 = some true := by kernel_rfl
theorem alive_f (k : Nat) (hk : 20 ≤ k) : slotcodelaw12_alive.f k = some true := at_rounds (g := fun k => slotcodelaw12_alive.f k) (fun k => slotcodelaw12_alive.mono k) hk alive20

theorem startsF_length (l : List S38) : (startsF l).length = l.length := by simp [startsF]
theorem rd_startsF (l : List S38) (i : Nat) (h : i < l.length) : rd (startsF l) (i : Int) = startF l i := by
  simp [rd, startsF, h]

end Go.Proofs.YtcbhmnaakoegbaaDoor.Q
