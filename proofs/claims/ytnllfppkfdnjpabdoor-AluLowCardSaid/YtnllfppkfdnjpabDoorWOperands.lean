/- The law AluOperands: what the printed function says is always true; its walk. -/
import Derived.Test.YtnllfppkfdnjpabDoorJx2
import Derived.OpenShut
namespace Go.Proofs.YtnllfppkfdnjpabDoor.Q
open Go Go.RowKit Go.Proofs.YtnllfppkfdnjpabDoor.Ops Go.Proofs.YtnllfppkfdnjpabDoorW.PrintWords

theorem rform_allC : (List.range 86).map (fun n => slotcoderef03_Form.f 5 (Int.ofNat n)) = (List.range 86).map (fun n => some (formS (Int.ofNat n))) := by kernel_rfl
theorem right_fC (n : Int) : slotcoderef03_Right.f n = some (decide (Is n)) := by
  unfold slotcoderef03_Right.f
  by_cases h0 : n ≥ 0
  · rw [if_pos h0]
    congr 1
    rw [decide_eq_decide]
    exact ⟨fun h => ⟨h0, by omega⟩, fun h => by have := h.2; omega⟩
  · rw [if_neg h0]
    congr 1
    rw [eq_comm, decide_eq_false_iff_not]
    exact fun h => h0 h.1
theorem in_rangeC {α : Type} {f g : Int → α} (h : (List.range 86).map (fun n => f (Int.ofNat n)) = (List.range 86).map (fun n => g (Int.ofNat n))) (n : Int) (hn : Is n) : f n = g n := by
  obtain ⟨m, rfl⟩ := Int.eq_ofNat_of_zero_le hn.1
  exact of_range h m (by have := hn.2; omega)
theorem formS_outC {n : Int} (h : ¬ Is n) : formS n = -1 := by simp only [formS, rowS, if_neg h]
theorem form_fC (k : Nat) (hk : 5 ≤ k) (n : Int) : slotcoderef03_Form.f k n = some (formS n) := by
  refine at_rounds (g := fun k => slotcoderef03_Form.f k n) (fun k => slotcoderef03_Form.mono n k) hk ?_
  by_cases h : Is n
  · exact in_rangeC (f := fun n => slotcoderef03_Form.f 5 n) (g := fun n => some (formS n)) rform_allC n h
  · show slotcoderef03_Form.f 5 n = _
    unfold slotcoderef03_Form.f
    rw [right_fC, decide_eq_false h]
    simp only [Option.bind_some, Bool.false_eq_true, if_false, formS_outC h]
theorem aluOperands_true (o : Int) (r : Bool) (d s f i src : Int) : slotcodelaw06_AluOperands.f 40 o r d s f i src = some true := by
  unfold slotcodelaw06_AluOperands.f slotcodelaw06_alive.f alu_Operand.f slotcoderef06_Operand.f ops_Form.f
  rw [form_fC 40 (by omega)]
  cases r with
  | true => simp
  | false =>
    by_cases h : formS o = 2
    · simp [h]
    · simp [h]
end Go.Proofs.YtnllfppkfdnjpabDoor.Q
namespace Go.Proofs.YtnllfppkfdnjpabDoor.L
open Go Go.RowKit Go.Proofs.YtnllfppkfdnjpabDoor.Ops Go.Proofs.YtnllfppkfdnjpabDoor.Q Go.Proofs.YtnllfppkfdnjpabDoorW.PrintWords

theorem aluOperands_walk (w : World) (hG : GG w) (o : Int) (r : Bool) (d s f i : Int) {Q : Prop} (_ : Q) (src : Int) {Q1 : Prop} (_ : Q1) :
    Calls Tryd.prog 4 #[.agg #[.int .i64 o, .bool r, .int .i64 d, .int .i64 s, .int .i64 f, .int .i64 i], .int .u64 src] w fun e w' => e = .returned (.bool true) ∧ Below w.heap.size w w' :=
  slotcodelaw06_AluOperands.calls 40 o r d s f i src true w (aluOperands_true o r d s f i src) hG
end Go.Proofs.YtnllfppkfdnjpabDoor.L
