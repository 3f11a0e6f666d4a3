/- What Uses, Writes, Slots, Ends, Jumps and their references come to: plain laws. -/
import Derived.Test.YtnllfppkfdnjpaaDoorRcp
import Derived.Test.YtnllfppkfdnjpaaDoorAl4
import Derived.Test.YtnllfppkfdnjpaaDoorIx1h
import Derived.Test.YtnllfppkfdnjpaaDoorIx1h
namespace Go.Proofs.YtnllfppkfdnjpaaDoor.Q
open Go Go.RowKit Go.Proofs.YtnllfppkfdnjpaaDoor.Ops Go.Proofs.YtnllfppkfdnjpaaDoorW.PrintWords

theorem form_mem (o : Int) : formS o ∈ ([-1, 0, 1, 2, 3, 4, 5, 6, 7, 8, 9, 10, 11] : List Int) := form_cases (C := fun t => t ∈ ([-1, 0, 1, 2, 3, 4, 5, 6, 7, 8, 9, 10, 11] : List Int)) (fun _ h => h) o
theorem uses40 (o : Int) (reg : Bool) : insn_Uses.f 40 o reg = some (usesT (formS o) reg) :=
  at_rounds (g := fun k => insn_Uses.f k o reg) (fun k => insn_Uses.mono o reg k) (show 10 ≤ 40 by omega) (uses_f o reg)
def writesT (t d : Int) : Int := if [0, 1, 2, 7, 10, 11].contains t then d else if t = 5 then 0 else -1
theorem writes40 (o : Int) (r : Bool) (d s f i : Int) : insn_Writes.f 40 o r d s f i = some (writesT (formS o) d) := by
  unfold insn_Writes.f ops_Form.f
  simp only [Option.bind_some]
  have hm := form_mem o
  generalize formS o = t at hm
  simp only [List.mem_cons, List.not_mem_nil, or_false] at hm
  rcases hm with rfl | rfl | rfl | rfl | rfl | rfl | rfl | rfl | rfl | rfl | rfl | rfl | rfl <;> rfl
theorem in_list : ([-1, 0, 1, 2, 3, 4, 5, 6, 7, 8, 9, 10, 11] : List Int).map (fun t => slotcoderef04_in.f 40 t [0, 1, 2, 7, 10, 11]) = ([-1, 0, 1, 2, 3, 4, 5, 6, 7, 8, 9, 10, 11] : List Int).map (fun t => some (([0, 1, 2, 7, 10, 11] : List Int).contains t)) := by kernel_rfl
theorem rwrites40 (o : Int) (r : Bool) (d s f i : Int) : slotcoderef04_Writes.f 40 o r d s f i = some (writesT (formS o) d) := by
  unfold slotcoderef04_Writes.f
  rw [form_f 40 (by omega)]
  simp only [Option.bind_some]
  have hm := form_mem o
  rw [List.map_inj_left.1 in_list _ hm]
  unfold writesT
  simp only [Option.bind_some]
  split
  · rfl
  · split <;> rfl
def slotsT (t : Int) : Int := if t = -1 then 0 else if t = 10 then 2 else if t = 11 then 2 else 1
theorem slots_f (o : Int) : insn_Slots.f o = some (slotsT (formS o)) := by
  unfold insn_Slots.f ops_Form.f slotsT
  simp only [Option.bind_some]
  split
  · rfl
  · split
    · rfl
    · split <;> rfl
theorem rslots40 (o : Int) : slotcoderef04_Slots.f 40 o = some (slotsT (formS o)) := by
  unfold slotcoderef04_Slots.f
  rw [form_f 40 (by omega)]
  simp only [Option.bind_some]
  have hm := form_mem o
  generalize formS o = t at hm
  simp only [List.mem_cons, List.not_mem_nil, or_false] at hm
  rcases hm with rfl | rfl | rfl | rfl | rfl | rfl | rfl | rfl | rfl | rfl | rfl | rfl | rfl <;> rfl
theorem ends_f (o : Int) (r : Bool) (d s f i : Int) : insn_Ends.f o r d s f i = some (formS o == 3 || formS o == 6) := by
  unfold insn_Ends.f ops_Form.f
  simp only [Option.bind_some]
  by_cases h : formS o = 3
  · rw [if_pos h, h]; rfl
  · rw [if_neg h]; simp [h]
theorem jumps_f (o : Int) (r : Bool) (d s f i : Int) : insn_Jumps.f o r d s f i = some (formS o == 3 || formS o == 4) := by
  unfold insn_Jumps.f ops_Form.f
  simp only [Option.bind_some]
  by_cases h : formS o = 3
  · rw [if_pos h, h]; rfl
  · rw [if_neg h]; simp [h]
end Go.Proofs.YtnllfppkfdnjpaaDoor.Q
