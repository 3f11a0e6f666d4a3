/- The reference's Code as a Lean function (its text as the print gives it), and its contract out of the table's. -/
import Derived.Test.YtgdfeehpbccbnaaDoorRef
set_option linter.unusedVariables false
namespace Go.Proofs.YtgdfeehpbccbnaaDoor.R
open Go.RowKit Go.Proofs.YtgdfeehpbccbnaaDoorW.PrintWords Go.Proofs.YtgdfeehpbccbnaaDoorW.PrintLast Go.Proofs.YtgdfeehpbccbnaaDoorW.PrintMore Go.Proofs.YtgdfeehpbccbnaaDoor.Ops

/-! ### slotcoderef03_codes -/
def slotcoderef03_codes.f  : Option (List Int) := some (([7, 23, 39, 55, 71, 87, 103, 119, 151, 167, 183, 199, 55, 151, 4, 20, 36, 52, 68, 84, 100, 116, 148, 164, 180, 196, 52, 148, 135, 132, 191, 191, 191, 188, 188, 212, 212, 212, 220, 220, 220, 215, 215, 215, 5, 21, 37, 53, 69, 85, 101, 117, 165, 181, 197, 213, 22, 38, 54, 70, 86, 102, 118, 166, 182, 198, 214, 133, 149, 113, 105, 97, 121, 145, 137, 129, 114, 106, 98, 122, 115, 107, 99, 123, 24, 24] : List Int))
/-! ### slotcoderef03_Code -/
def slotcoderef03_Code.j0 : Nat → Int → Bool → Bool → Option (Int × Bool)
  | 0, _, _, _ => none
  | k + 1, x0, x1, x22 => if x22 = true then (some (0, false)) else ((slotcoderef03_codes.f).bind fun t128 => (if 0 ≤ x0 then (if x0 < (t128.length : Int) then (if x1 = true then (some (((rd t128 x0) + 8) % 256, true)) else (some (rd t128 x0, true))) else (none)) else (none)))
def slotcoderef03_Code.f (k : Nat) (a0 : Int) (a1 : Bool) : Option (Int × Bool) := (slotcoderef03_Right.f a0).bind fun t125 => (if t125 = true then (if a1 = true then ((slotcoderef03_Form.f k a0).bind fun t126 => (if t126 = 0 then (slotcoderef03_Code.j0 k a0 a1 false) else ((slotcoderef03_Form.f k a0).bind fun t127 => (slotcoderef03_Code.j0 k a0 a1 (t127 != 4))))) else (slotcoderef03_Code.j0 k a0 a1 false)) else (slotcoderef03_Code.j0 k a0 a1 true))
theorem slotcoderef03_Code.mono_l : ∀ k, (∀ y0 y1 y2, LeO (slotcoderef03_Code.j0 k y0 y1 y2) (slotcoderef03_Code.j0 (k + 1) y0 y1 y2))
  | 0 => fun _ _ _ r h => by simp [slotcoderef03_Code.j0] at h
  | k + 1 => by
    have ih0 := slotcoderef03_Code.mono_l k
    · intro y0 y1 y2
      unfold slotcoderef03_Code.j0
      repeat' first
      | (with_reducible exact ih0 _ _ _)
      | (with_reducible exact slotcoderef03_Form.mono _ _)
      | (with_reducible exact LeO.refl _)
      | (with_reducible exact LeO.none _)
      | (with_reducible refine LeO.ite ?_ ?_)
      | (with_reducible refine LeO.bind ?_ (fun _ => ?_))
      | exact ih0 _ _ _
      | exact slotcoderef03_Form.mono _ _
      | exact LeO.none _
      | refine LeO.ite ?_ ?_
      | refine LeO.bind ?_ (fun _ => ?_)
theorem slotcoderef03_Code.mono : ∀ a0 a1 k, LeO (slotcoderef03_Code.f k a0 a1) (slotcoderef03_Code.f (k + 1) a0 a1) := by
  intro a0 a1 k
  have ih0 := slotcoderef03_Code.mono_l k
  unfold slotcoderef03_Code.f
  repeat' first
      | (with_reducible exact ih0 _ _ _)
      | (with_reducible exact slotcoderef03_Form.mono _ _)
      | (with_reducible exact LeO.refl _)
      | (with_reducible exact LeO.none _)
      | (with_reducible refine LeO.ite ?_ ?_)
      | (with_reducible refine LeO.bind ?_ (fun _ => ?_))
      | exact ih0 _ _ _
      | exact slotcoderef03_Form.mono _ _
      | exact LeO.none _
      | refine LeO.ite ?_ ?_
      | refine LeO.bind ?_ (fun _ => ?_)

theorem rcode_all : (List.range 86).map (fun n => (slotcoderef03_Code.f 5 (Int.ofNat n) false, slotcoderef03_Code.f 5 (Int.ofNat n) true)) = (List.range 86).map (fun n => (some (codeF (Int.ofNat n) false), some (codeF (Int.ofNat n) true))) := by kernel_rfl
theorem rcode_f (n : Int) (reg : Bool) : slotcoderef03_Code.f 5 n reg = some (codeF n reg) := by
  by_cases h : Is n
  · have := in_range (f := fun n => (slotcoderef03_Code.f 5 n false, slotcoderef03_Code.f 5 n true)) (g := fun n => (some (codeF n false), some (codeF n true))) rcode_all n h
    simp only [Prod.mk.injEq] at this
    cases reg
    · exact this.1
    · exact this.2
  · unfold slotcoderef03_Code.f
    rw [right_f, decide_eq_false h]
    simp only [Option.bind_some, Bool.false_eq_true, if_false, slotcoderef03_Code.j0, if_true, codeF, if_neg h]
theorem slotcoderef03_Code.calls (k : Nat) (a0 : Int) (a1 : Bool) (r1 : Int) (r2 : Bool) (w : World) (h : slotcoderef03_Code.f k a0 a1 = some (r1, r2)) :
    Calls Tryd.prog 24 #[.int .i64 a0, .bool a1] w fun e w' => e = .returned (.tuple #[.int .u8 r1, .bool r2]) ∧ Below w.heap.size w w' := by
  have h1 := at_rounds (g := fun k => slotcoderef03_Code.f k a0 a1) (fun k => slotcoderef03_Code.mono a0 a1 k) (Nat.le_max_left k 5) h
  have h2 := at_rounds (g := fun k => slotcoderef03_Code.f k a0 a1) (fun k => slotcoderef03_Code.mono a0 a1 k) (Nat.le_max_right k 5) (rcode_f a0 a1)
  have h3 := Option.some.inj (h1.symm.trans h2)
  have e1 : r1 = (codeF a0 a1).1 := congrArg Prod.fst h3
  have e2 : r2 = (codeF a0 a1).2 := congrArg Prod.snd h3
  rw [e1, e2]
  exact rcode_any a0 a1 w
end Go.Proofs.YtgdfeehpbccbnaaDoor.R
