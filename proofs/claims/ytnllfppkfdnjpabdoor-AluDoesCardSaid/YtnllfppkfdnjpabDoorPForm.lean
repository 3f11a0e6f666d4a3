/- The forms of the operations of chapter 6, in the program and in the reference: plain laws. -/
import Derived.Test.YtnllfppkfdnjpabDoorPAlu
import Derived.Test.YtnllfppkfdnjpabDoorJx1
namespace Go.Proofs.YtnllfppkfdnjpabDoor.Q
open Go Go.RowKit Go.Proofs.YtnllfppkfdnjpabDoor.Ops Go.Proofs.YtnllfppkfdnjpabDoorW.PrintWords

theorem rform_allC : (List.range 86).map (fun n => slotcoderef03_Form.f 5 (Int.ofNat n)) = (List.range 86).map (fun n => some (formS (Int.ofNat n))) := by kernel_rfl
theorem right_fC (n : Int) : slotcoderef03_Right.f n = some (decide (Is n)) := by
  unfold slotcoderef03_Right.f
  by_cases h0 : n ≥ 0
  · rw [if_pos h0]
    congr 1
    rw [decide_eq_decide]
    exact ⟨fun h => ⟨h0, by omega⟩, fun h => by have := h.2; omega⟩
  · rw [if_neg h0]
    congr 1
    rw [eq_comm, decide_eq_false_iff_not]
    exact fun h => h0 h.1
theorem in_rangeC {α : Type} {f g : Int → α} (h : (List.range 86).map (fun n => f (Int.ofNat n)) = (List.range 86).map (fun n => g (Int.ofNat n))) (n : Int) (hn : Is n) : f n = g n := by
  obtain ⟨m, rfl⟩ := Int.eq_ofNat_of_zero_le hn.1
  exact of_range h m (by have := hn.2; omega)
theorem formS_outC {n : Int} (h : ¬ Is n) : formS n = -1 := by simp only [formS, rowS, if_neg h]
theorem form_fC (k : Nat) (hk : 5 ≤ k) (n : Int) : slotcoderef03_Form.f k n = some (formS n) := by
  refine at_rounds (g := fun k => slotcoderef03_Form.f k n) (fun k => slotcoderef03_Form.mono n k) hk ?_
  by_cases h : Is n
  · exact in_rangeC (f := fun n => slotcoderef03_Form.f 5 n) (g := fun n => some (formS n)) rform_allC n h
  · show slotcoderef03_Form.f 5 n = _
    unfold slotcoderef03_Form.f
    rw [right_fC, decide_eq_false h]
    simp only [Option.bind_some, Bool.false_eq_true, if_false, formS_outC h]
theorem alu_form : (List.range 86).map (fun n => formS (Int.ofNat n) == 0) = (List.range 86).map (fun n => decide (Int.ofNat n ≤ 27)) := by kernel_rfl
theorem alu_bits : (List.range 86).map (fun n => !(decide (Int.ofNat n ≤ 27)) || bitsS (Int.ofNat n) == (if Int.ofNat n ≤ 13 then 64 else 32)) = (List.range 86).map (fun _ => true) := by kernel_rfl
theorem form0_iff (o : Int) : formS o = 0 ↔ 0 ≤ o ∧ o ≤ 27 := by
  by_cases h : Is o
  · have e := in_rangeC (f := fun n => formS n == 0) (g := fun n => decide (n ≤ 27)) alu_form o h
    rw [Bool.eq_iff_iff] at e
    simp only [beq_iff_eq, decide_eq_true_eq] at e
    rw [e]
    exact ⟨fun k => ⟨h.1, k⟩, fun k => k.2⟩
  · rw [formS_outC h]
    unfold Is at h
    omega
theorem bits0 {o : Int} (h : formS o = 0) : bitsS o = if o ≤ 13 then 64 else 32 := by
  obtain ⟨h1, h2⟩ := (form0_iff o).1 h
  have e := in_rangeC (f := fun n => !(decide (n ≤ 27)) || bitsS n == (if n ≤ 13 then 64 else 32)) (g := fun _ => true) alu_bits o ⟨h1, by omega⟩
  simpa [h2] using e
theorem rbits_all : (List.range 86).map (fun n => slotcoderef03_Bits.f 200 (Int.ofNat n)) = (List.range 86).map (fun n => some (bitsS (Int.ofNat n))) := by kernel_rfl
theorem rbits0 {o : Int} (h : formS o = 0) : slotcoderef03_Bits.f 200 o = some (bitsS o) := by
  obtain ⟨h1, h2⟩ := (form0_iff o).1 h
  exact in_rangeC (f := fun n => slotcoderef03_Bits.f 200 n) (g := fun n => some (bitsS n)) rbits_all o ⟨h1, by omega⟩
def opB (r : Bool) (i src : Int) : Int := if r then src else IntKind.u64.wrap i
theorem operand0 {o : Int} (h : formS o = 0) (r : Bool) (d s f i B : Int) : alu_Operand.f o r d s f i B = some (opB r i B) := by
  unfold alu_Operand.f opB ops_Form.f
  cases r with
  | true => rfl
  | false => simp [h]
theorem do32 {o : Int} (h : formS o = 0) (hb : bitsS o = 32) (r : Bool) (d s f i A B : Int) : alu_Do.f o r d s f i A B = (c32 (wrap64 (o - 14)) (A % 4294967296) (opB r i B % 4294967296) 32).bind fun q => some (IntKind.u64.wrap q, true) := by
  unfold alu_Do.f ops_Bits.f
  rw [hb, operand0 h]
  unfold ops_Form.f alu_compute_uint32.f
  simp only [Option.bind_some, h, if_true]
  cases c32 (wrap64 (o - 14)) (A % 4294967296) (opB r i B % 4294967296) 32 <;> rfl
theorem bits_xor64 (a b : Nat) (ha : a < 18446744073709551616) (hb : b < 18446744073709551616) : Go.bits .xor .u64 (a : Int) (b : Int) = ((a ^^^ b : Nat) : Int) := by
  have hx : a ^^^ b < 2 ^ 64 := Nat.xor_lt_two_pow (by omega) (by omega)
  have h1 : (BitVec.ofInt 64 (a : Int)).toNat = a := by
    rw [BitVec.ofInt_natCast, BitVec.toNat_ofNat]; exact Nat.mod_eq_of_lt (by omega)
  have h2 : (BitVec.ofInt 64 (b : Int)).toNat = b := by
    rw [BitVec.ofInt_natCast, BitVec.toNat_ofNat]; exact Nat.mod_eq_of_lt (by omega)
  show IntKind.u64.wrap ((BitVec.ofInt 64 (a : Int) ^^^ BitVec.ofInt 64 (b : Int)).toNat : Int) = _
  rw [BitVec.toNat_xor, h1, h2, u64C]
  omega
end Go.Proofs.YtnllfppkfdnjpabDoor.Q
