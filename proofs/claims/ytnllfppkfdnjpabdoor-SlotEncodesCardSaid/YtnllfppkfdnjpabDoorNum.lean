/- num.known: whether a number is one of the numbers of bits. -/
import Derived.Test.YtnllfppkfdnjpabDoorKx2h
namespace Go.Proofs.YtnllfppkfdnjpabDoor.Q
open Go Go.RowKit Go.Proofs.YtnllfppkfdnjpabDoor.Ops Go.Proofs.YtnllfppkfdnjpabDoorW.PrintWords

def knownB (n : Int) : Bool := n == 8 || n == 16 || n == 32 || n == 64
def widthsL : List Int := [8, 16, 32, 64]
theorem index_widths (n : Int) : slices_Index_int_int.f 20 widthsL n = some (if n = 8 then 0 else if n = 16 then 1 else if n = 32 then 2 else if n = 64 then 3 else -1) := by
  by_cases h0 : n = 8
  · subst h0; kernel_rfl
  · by_cases h1 : n = 16
    · subst h1; kernel_rfl
    · by_cases h2 : n = 32
      · subst h2; kernel_rfl
      · by_cases h3 : n = 64
        · subst h3; kernel_rfl
        · simp [slices_Index_int_int.f, slices_Index_int_int.l0, widthsL, rd, wrap64, h0, h1, h2, h3]
theorem contains_widths (n : Int) : slices_Contains_int_int.f 20 widthsL n = some (knownB n) := by
  unfold slices_Contains_int_int.f
  rw [index_widths]
  simp only [Option.bind_some, knownB]
  by_cases h0 : n = 8
  · subst h0; rfl
  · by_cases h1 : n = 16
    · subst h1; rfl
    · by_cases h2 : n = 32
      · subst h2; rfl
      · by_cases h3 : n = 64
        · subst h3; rfl
        · simp [h0, h1, h2, h3]
theorem widths_C {w : World} (h : WG w) : Kd.C (Kd.int .i64) w (some ⟨1, 0, none⟩) widthsL.length widthsL := by
  refine ⟨rfl, by decide, fun _ => ⟨_, rfl, fun j p hp => ?_⟩⟩
  match j, hp with
  | 0, hp => obtain rfl := Option.some.inj hp; exact ⟨[.int .i64 8], rfl, rfl, fun i u hu => by match i, hu with | 0, hu => (obtain rfl := Option.some.inj hu; exact h.c0)⟩
  | 1, hp => obtain rfl := Option.some.inj hp; exact ⟨[.int .i64 16], rfl, rfl, fun i u hu => by match i, hu with | 0, hu => (obtain rfl := Option.some.inj hu; exact h.c1)⟩
  | 2, hp => obtain rfl := Option.some.inj hp; exact ⟨[.int .i64 32], rfl, rfl, fun i u hu => by match i, hu with | 0, hu => (obtain rfl := Option.some.inj hu; exact h.c2)⟩
  | 3, hp => obtain rfl := Option.some.inj hp; exact ⟨[.int .i64 64], rfl, rfl, fun i u hu => by match i, hu with | 0, hu => (obtain rfl := Option.some.inj hu; exact h.c3)⟩

set_option maxRecDepth 100000 in
theorem known_any (n : Int) (w : World) (hG : GG w) : Calls Tryd.prog 77 #[.int .i64 n] w fun e w' => e = .returned (.bool (knownB n)) ∧ Below w.heap.size w w' := by
  go_enter Tryd.func77, Tryd.ntmps77
  go_wp2_with fail
  refine (slices_Contains_int_int.calls 20 _ 4 widthsL n (knownB n) w (widths_C hG.2) (Nat.le_refl _) (contains_widths n)).mono ?_
  rintro e w1 ⟨rfl, _, k, rfl⟩
  go_wp2_with fail
  go_ret
  exact ⟨rfl, pw_below_drewN (Below.refl _ _) _⟩
def num_known.f (a0 : Int) : Option Bool := some (knownB a0)
theorem num_known.calls (a0 : Int) (r : Bool) (w : World) (h : num_known.f a0 = some r) (hG : GG w) : Calls Tryd.prog 77 #[.int .i64 a0] w fun e w' => e = .returned (.bool r) ∧ Below w.heap.size w w' := by
  obtain rfl := Option.some.inj h
  exact known_any a0 w hG
end Go.Proofs.YtnllfppkfdnjpabDoor.Q
