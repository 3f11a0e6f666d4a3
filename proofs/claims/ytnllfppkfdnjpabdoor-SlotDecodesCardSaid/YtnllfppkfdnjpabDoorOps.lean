/- The exported readers of package ops: Count, Name, Form, Bits, Fixed, Code. -/
import Derived.Test.YtnllfppkfdnjpabDoorGet
import Derived.Deep.QuietTactic
import Derived.BigQuiet
import Derived.WalkSmall
namespace Go.Proofs.YtnllfppkfdnjpabDoor.Ops
open Go Go.RowKit

@[go_sem] theorem fld0 (a b c d e f g : Value) (w : World) : (Instr.field 95 (.agg #[a, b, c, d, e, f, g]) 0).run Tryd.prog w = .ok a w := by kernel_rfl
@[go_sem] theorem fld1 (a b c d e f g : Value) (w : World) : (Instr.field 95 (.agg #[a, b, c, d, e, f, g]) 1).run Tryd.prog w = .ok b w := by kernel_rfl
@[go_sem] theorem fld2 (a b c d e f g : Value) (w : World) : (Instr.field 95 (.agg #[a, b, c, d, e, f, g]) 2).run Tryd.prog w = .ok c w := by kernel_rfl
@[go_sem] theorem fld3 (a b c d e f g : Value) (w : World) : (Instr.field 95 (.agg #[a, b, c, d, e, f, g]) 3).run Tryd.prog w = .ok d w := by kernel_rfl
@[go_sem] theorem fld4 (a b c d e f g : Value) (w : World) : (Instr.field 95 (.agg #[a, b, c, d, e, f, g]) 4).run Tryd.prog w = .ok e w := by kernel_rfl
@[go_sem] theorem fld5 (a b c d e f g : Value) (w : World) : (Instr.field 95 (.agg #[a, b, c, d, e, f, g]) 5).run Tryd.prog w = .ok f w := by kernel_rfl
@[go_sem] theorem fld6 (a b c d e f g : Value) (w : World) : (Instr.field 95 (.agg #[a, b, c, d, e, f, g]) 6).run Tryd.prog w = .ok g w := by kernel_rfl

theorem name_any (n : Int) (w : World) (hG : G w) : Calls Tryd.prog 78 #[.int .i64 n] w fun e w' => e = .returned (.string (nameS n)) ∧ Below w.heap.size w w' := by
  go_enter Tryd.func78, Tryd.ntmps78
  go_wp2_with (go_at_call 74; refine (get_any _ _ hG).mono ?_; rintro e w1 ⟨rfl, hb⟩; unfold getV)
  go_ret
  exact ⟨rfl, hb⟩

theorem form_any (n : Int) (w : World) (hG : G w) : Calls Tryd.prog 41 #[.int .i64 n] w fun e w' => e = .returned (.int .i64 (formS n)) ∧ Below w.heap.size w w' := by
  go_enter Tryd.func41, Tryd.ntmps41
  go_wp2_with (go_at_call 74; refine (get_any _ _ hG).mono ?_; rintro e w1 ⟨rfl, hb⟩; unfold getV)
  go_ret
  exact ⟨rfl, hb⟩

theorem bits_any (n : Int) (w : World) (hG : G w) : Calls Tryd.prog 40 #[.int .i64 n] w fun e w' => e = .returned (.int .i64 (bitsS n)) ∧ Below w.heap.size w w' := by
  go_enter Tryd.func40, Tryd.ntmps40
  go_wp2_with (go_at_call 74; refine (get_any _ _ hG).mono ?_; rintro e w1 ⟨rfl, hb⟩; unfold getV)
  go_ret
  exact ⟨rfl, hb⟩

theorem fixed_any (n : Int) (w : World) (hG : G w) : Calls Tryd.prog 44 #[.int .i64 n] w fun e w' =>
    e = .returned (.tuple #[.int .i64 (srcS n), .int .i64 (offS n), .int .i64 (immS n)]) ∧ Below w.heap.size w w' := by
  go_enter Tryd.func44, Tryd.ntmps44
  go_wp2_with (go_at_call 74; refine (get_any _ _ hG).mono ?_; rintro e w1 ⟨rfl, hb⟩; unfold getV)
  have hs := hb.size
  go_quiet (fail)
  go_wp2
  go_ret3
  exact ⟨rfl, below_drewN (hb.alloc hs _) _⟩

def noneV : Value := .agg #[.string ⟨#[]⟩, .int .i64 (-1), .int .i64 0, .int .u8 0, .int .i64 0, .int .i64 0, .int .i64 0]
theorem name_ne : (List.range 86).map (fun n => (nameS (Int.ofNat n)).toList == []) = (List.range 86).map (fun _ => false) := by kernel_rfl
theorem name_ne_at (n : Int) (h : Is n) : ((nameS n).toList == []) = false := by
  obtain ⟨m, rfl⟩ := Int.eq_ofNat_of_zero_le h.1
  exact of_range name_ne m (by have := h.2; omega)

def codeF (n : Int) (reg : Bool) : Int × Bool :=
  if Is n then (if reg then (if formS n == 0 || formS n == 4 then ((codeS n + 8) % 256, true) else (0, false)) else (codeS n, true)) else (0, false)

theorem code_out (n : Int) (reg : Bool) (h : ¬ Is n) (w : World) (hG : G w) : Calls Tryd.prog 56 #[.int .i64 n, .bool reg] w fun e w' =>
    e = .returned (.tuple #[.int .u8 0, .bool false]) ∧ Below w.heap.size w w' := by
  have hv : getV n = noneV := by
    simp only [getV, nameS, formS, bitsS, codeS, srcS, offS, immS, rowS, if_neg h]
    rfl
  go_enter Tryd.func56, Tryd.ntmps56
  go_wp2_with fail
  refine (get_any _ _ hG).mono ?_
  rintro e w1 ⟨rfl, hb⟩
  rw [hv]
  unfold noneV
  have hs := hb.size
  have hG1 := hG.below hG.lt hb
  have hlt := hG1.lt
  obtain ⟨c0, c1, c2, c3, c4, c5, c6⟩ := hG1
  go_wp2
  go_ret2
  exact ⟨rfl, hb.alloc hs _⟩

theorem code_imm (n : Int) (h : Is n) (w : World) (hG : G w) : Calls Tryd.prog 56 #[.int .i64 n, .bool false] w fun e w' =>
    e = .returned (.tuple #[.int .u8 (codeS n), .bool true]) ∧ Below w.heap.size w w' := by
  have hn := name_ne_at n h
  go_enter Tryd.func56, Tryd.ntmps56
  go_wp2_with fail
  refine (get_any _ _ hG).mono ?_
  rintro e w1 ⟨rfl, hb⟩
  unfold getV
  have hs := hb.size
  have hG1 := hG.below hG.lt hb
  have hlt := hG1.lt
  obtain ⟨c0, c1, c2, c3, c4, c5, c6⟩ := hG1
  go_wp2
  go_ret2
  exact ⟨rfl, hb.alloc hs _⟩

theorem code_reg (n : Int) (h : Is n) (b0 b4 : Bool) (h0 : (formS n == 0) = b0) (h4 : (formS n == 4) = b4) (w : World) (hG : G w) : Calls Tryd.prog 56 #[.int .i64 n, .bool true] w fun e w' =>
    e = .returned (.tuple #[.int .u8 (if b0 || b4 then (codeS n + 8) % 256 else 0), .bool (b0 || b4)]) ∧ Below w.heap.size w w' := by
  have hn := name_ne_at n h
  go_enter Tryd.func56, Tryd.ntmps56
  go_wp2_with fail
  refine (get_any _ _ hG).mono ?_
  rintro e w1 ⟨rfl, hb⟩
  unfold getV
  have hs := hb.size
  have hG1 := hG.below hG.lt hb
  have hlt := hG1.lt
  obtain ⟨c0, c1, c2, c3, c4, c5, c6⟩ := hG1
  cases b0 <;> cases b4 <;> (go_wp2; go_ret2; exact ⟨rfl, hb.alloc hs _⟩)

theorem code_any (n : Int) (reg : Bool) (w : World) (hG : G w) : Calls Tryd.prog 56 #[.int .i64 n, .bool reg] w fun e w' =>
    e = .returned (.tuple #[.int .u8 (codeF n reg).1, .bool (codeF n reg).2]) ∧ Below w.heap.size w w' := by
  by_cases h : Is n
  · cases reg
    · simp only [codeF, if_pos h, Bool.false_eq_true, if_false]
      exact code_imm n h w hG
    · refine (code_reg n h _ _ rfl rfl w hG).mono ?_
      rintro e w' ⟨rfl, hb⟩
      refine ⟨?_, hb⟩
      simp only [codeF, if_pos h, if_true]
      cases (formS n == 0 || formS n == 4) <;> rfl
  · simp only [codeF, if_neg h]
    exact code_out n reg h w hG
end Go.Proofs.YtnllfppkfdnjpabDoor.Ops
