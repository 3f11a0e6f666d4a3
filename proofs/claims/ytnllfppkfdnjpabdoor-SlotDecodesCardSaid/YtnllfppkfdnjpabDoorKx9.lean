-- PRINTED by print.py (a twelfth state) out of the translation. Not trusted: Lean checks it.
import Derived.Test.YtnllfppkfdnjpabDoorKx0
import Derived.Test.YtnllfppkfdnjpabDoorKx2
namespace Go.Proofs.YtnllfppkfdnjpabDoor.Q
open Go.RowKit Go.Proofs.YtnllfppkfdnjpabDoorW.PrintWords Go.Proofs.YtnllfppkfdnjpabDoorW.PrintLast Go.Proofs.YtnllfppkfdnjpabDoorW.PrintMore
attribute [local go_sem] max2_int min2_int max_two min_two max_three min_three max_four min_four   -- for this text's walks alone
set_option linter.unusedVariables false
set_option linter.unusedSimpArgs false

/-! ### slotcoderef03_Identify: function 72 -/
mutual
def slotcoderef03_Identify.l0 : Nat → Int → Int → Int → Int → Int → Option (Int × Bool × Bool)
  | 0, _, _, _, _, _ => none
  | k + 1, x0, x1, x2, x3, x11 => if x11 ≤ 85 then ((slotcoderef03_Fixed.f x11).bind fun bt210 => ((slotcoderef03_Form.f k x11).bind fun t213 => (if t213 = 0 then (if bt210.2.1 = x2 then (if x11 ≥ 35 then (if x11 ≤ 43 then (if bt210.2.2 = x3 then (if x11 ≥ 84 then (slotcoderef03_Identify.j1 k x0 x1 x2 x3 x11 (bt210.1 != x1)) else (slotcoderef03_Identify.j1 k x0 x1 x2 x3 x11 false)) else (slotcoderef03_Identify.j1 k x0 x1 x2 x3 x11 true)) else (if x11 ≥ 84 then (slotcoderef03_Identify.j1 k x0 x1 x2 x3 x11 (bt210.1 != x1)) else (slotcoderef03_Identify.j1 k x0 x1 x2 x3 x11 false))) else (if x11 ≥ 84 then (slotcoderef03_Identify.j1 k x0 x1 x2 x3 x11 (bt210.1 != x1)) else (slotcoderef03_Identify.j1 k x0 x1 x2 x3 x11 false))) else (slotcoderef03_Identify.j1 k x0 x1 x2 x3 x11 true)) else (if t213 = 2 then (if bt210.2.1 = x2 then (if x11 ≥ 35 then (if x11 ≤ 43 then (if bt210.2.2 = x3 then (if x11 ≥ 84 then (slotcoderef03_Identify.j1 k x0 x1 x2 x3 x11 (bt210.1 != x1)) else (slotcoderef03_Identify.j1 k x0 x1 x2 x3 x11 false)) else (slotcoderef03_Identify.j1 k x0 x1 x2 x3 x11 true)) else (if x11 ≥ 84 then (slotcoderef03_Identify.j1 k x0 x1 x2 x3 x11 (bt210.1 != x1)) else (slotcoderef03_Identify.j1 k x0 x1 x2 x3 x11 false))) else (if x11 ≥ 84 then (slotcoderef03_Identify.j1 k x0 x1 x2 x3 x11 (bt210.1 != x1)) else (slotcoderef03_Identify.j1 k x0 x1 x2 x3 x11 false))) else (slotcoderef03_Identify.j1 k x0 x1 x2 x3 x11 true)) else (if x11 ≥ 35 then (if x11 ≤ 43 then (if bt210.2.2 = x3 then (if x11 ≥ 84 then (slotcoderef03_Identify.j1 k x0 x1 x2 x3 x11 (bt210.1 != x1)) else (slotcoderef03_Identify.j1 k x0 x1 x2 x3 x11 false)) else (slotcoderef03_Identify.j1 k x0 x1 x2 x3 x11 true)) else (if x11 ≥ 84 then (slotcoderef03_Identify.j1 k x0 x1 x2 x3 x11 (bt210.1 != x1)) else (slotcoderef03_Identify.j1 k x0 x1 x2 x3 x11 false))) else (if x11 ≥ 84 then (slotcoderef03_Identify.j1 k x0 x1 x2 x3 x11 (bt210.1 != x1)) else (slotcoderef03_Identify.j1 k x0 x1 x2 x3 x11 false))))))) else (some (0, false, false))
def slotcoderef03_Identify.j1 : Nat → Int → Int → Int → Int → Int → Bool → Option (Int × Bool × Bool)
  | 0, _, _, _, _, _, _ => none
  | k + 1, x0, x1, x2, x3, x11, x63 => if x63 = true then (slotcoderef03_Identify.l0 k x0 x1 x2 x3 (wrap64 (x11 + 1))) else ((slotcoderef03_Code.f x11 false).bind fun bt214 => (if bt214.1 = x0 then (some (x11, false, true)) else ((slotcoderef03_Code.f x11 true).bind fun bt216 => (if bt216.2 = true then (if bt216.1 = x0 then (some (x11, true, true)) else (slotcoderef03_Identify.l0 k x0 x1 x2 x3 (wrap64 (x11 + 1)))) else (slotcoderef03_Identify.l0 k x0 x1 x2 x3 (wrap64 (x11 + 1)))))))
end
def slotcoderef03_Identify.f (k : Nat) (a0 : Int) (a1 : Int) (a2 : Int) (a3 : Int) : Option (Int × Bool × Bool) := slotcoderef03_Identify.l0 k a0 a1 a2 a3 0
theorem slotcoderef03_Identify.mono_l : ∀ k, (∀ y0 y1 y2 y3 y4, LeO (slotcoderef03_Identify.l0 k y0 y1 y2 y3 y4) (slotcoderef03_Identify.l0 (k + 1) y0 y1 y2 y3 y4)) ∧ (∀ y0 y1 y2 y3 y4 y5, LeO (slotcoderef03_Identify.j1 k y0 y1 y2 y3 y4 y5) (slotcoderef03_Identify.j1 (k + 1) y0 y1 y2 y3 y4 y5))
  | 0 => ⟨fun _ _ _ _ _ r h => by simp [slotcoderef03_Identify.l0] at h, fun _ _ _ _ _ _ r h => by simp [slotcoderef03_Identify.j1] at h⟩
  | k + 1 => by
    obtain ⟨ih0, ih1⟩ := slotcoderef03_Identify.mono_l k
    refine ⟨?_, ?_⟩
    · intro y0 y1 y2 y3 y4
      unfold slotcoderef03_Identify.l0
      repeat' first
      | (with_reducible exact ih0 _ _ _ _ _)
      | (with_reducible exact ih1 _ _ _ _ _ _)
      | (with_reducible exact slotcoderef03_Form.mono _ _)
      | (with_reducible exact LeO.refl _)
      | (with_reducible exact LeO.none _)
      | (with_reducible refine LeO.ite ?_ ?_)
      | (with_reducible refine LeO.bind ?_ (fun _ => ?_))
      | exact ih0 _ _ _ _ _
      | exact ih1 _ _ _ _ _ _
      | exact slotcoderef03_Form.mono _ _
      | exact LeO.none _
      | refine LeO.ite ?_ ?_
      | refine LeO.bind ?_ (fun _ => ?_)
    · intro y0 y1 y2 y3 y4 y5
      unfold slotcoderef03_Identify.j1
      repeat' first
      | (with_reducible exact ih0 _ _ _ _ _)
      | (with_reducible exact ih1 _ _ _ _ _ _)
      | (with_reducible exact slotcoderef03_Form.mono _ _)
      | (with_reducible exact LeO.refl _)
      | (with_reducible exact LeO.none _)
      | (with_reducible refine LeO.ite ?_ ?_)
      | (with_reducible refine LeO.bind ?_ (fun _ => ?_))
      | exact ih0 _ _ _ _ _
      | exact ih1 _ _ _ _ _ _
      | exact slotcoderef03_Form.mono _ _
      | exact LeO.none _
      | refine LeO.ite ?_ ?_
      | refine LeO.bind ?_ (fun _ => ?_)
theorem slotcoderef03_Identify.mono : ∀ a0 a1 a2 a3 k, LeO (slotcoderef03_Identify.f k a0 a1 a2 a3) (slotcoderef03_Identify.f (k + 1) a0 a1 a2 a3) := by
  intro a0 a1 a2 a3 k
  obtain ⟨ih0, ih1⟩ := slotcoderef03_Identify.mono_l k
  unfold slotcoderef03_Identify.f
  repeat' first
      | (with_reducible exact ih0 _ _ _ _ _)
      | (with_reducible exact ih1 _ _ _ _ _ _)
      | (with_reducible exact slotcoderef03_Form.mono _ _)
      | (with_reducible exact LeO.refl _)
      | (with_reducible exact LeO.none _)
      | (with_reducible refine LeO.ite ?_ ?_)
      | (with_reducible refine LeO.bind ?_ (fun _ => ?_))
      | exact ih0 _ _ _ _ _
      | exact ih1 _ _ _ _ _ _
      | exact slotcoderef03_Form.mono _ _
      | exact LeO.none _
      | refine LeO.ite ?_ ?_
      | refine LeO.bind ?_ (fun _ => ?_)
set_option maxHeartbeats 8000000 in
set_option maxRecDepth 100000 in
theorem slotcoderef03_Identify.calls (k : Nat) (a0 : Int) (a1 : Int) (a2 : Int) (a3 : Int) (r1 : Int) (r2 : Bool) (r3 : Bool) (w : World) (h : slotcoderef03_Identify.f k a0 a1 a2 a3 = some (r1, r2, r3)) :
    Calls Tryd.prog 72 #[.int .u8 a0, .int .i64 a1, .int .i64 a2, .int .i64 a3] w fun e w' => e = .returned (.tuple #[.int .i64 r1, .bool r2, .bool r3]) ∧ Below w.heap.size w w' := by
  have HB := Aside0.mk (Below.refl w.heap.size w)
  have H : (slotcoderef03_Identify.l0 k a0 a1 a2 a3 0) = some (r1, r2, r3) := h
  clear h
  have H' := Aside0.mk H
  clear H
  go_enter Tryd.func72, Tryd.ntmps72
  go_wp2
  go_loopg [11] k (fun kq v11 w' => ∃ (x11_1 : Int), v11 = .int .i64 x11_1 ∧ Aside0 (slotcoderef03_Identify.l0 kq a0 a1 a2 a3 x11_1 = some (r1, r2, r3)) ∧ Aside0 (kq ≤ k) ∧ Aside0 (Below w.heap.size w w'))
  case atStart => exact ⟨(0), (by first | rfl | (simp; done) | (simp [*]; done)), H', ⟨Nat.le_refl _⟩, ⟨by repeat (first | (with_reducible first | exact HB.out | apply below_alloc | apply pw_below_drewN | apply below_drew1) | exact HB.out)⟩⟩
  case round =>
    clear H'
    try clear p2
    obtain ⟨x11_1, rfl, HA, HK1, HB⟩ := hrel
    cases gk with
    | zero => exact absurd HA.out (by simp [slotcoderef03_Identify.l0])
    | succ k1 =>
      have H := HA.out
      clear HA
      simp only [slotcoderef03_Identify.l0] at H
      by_cases c5 : x11_1 ≤ 85
      · rw [if_pos c5] at H
        have c5b0 : decide (x11_1 ≤ 85) = true := decide_eq_true c5
        clear c5
        replace H := Option.bind_eq_some_iff.mp H
        obtain ⟨⟨t210, t211, t212⟩, A60, H⟩ := H
        replace H : ((slotcoderef03_Form.f k1 x11_1).bind fun t213 => (if t213 = 0 then (if t211 = a2 then (if x11_1 ≥ 35 then (if x11_1 ≤ 43 then (if t212 = a3 then (if x11_1 ≥ 84 then (slotcoderef03_Identify.j1 k1 a0 a1 a2 a3 x11_1 (t210 != a1)) else (slotcoderef03_Identify.j1 k1 a0 a1 a2 a3 x11_1 false)) else (slotcoderef03_Identify.j1 k1 a0 a1 a2 a3 x11_1 true)) else (if x11_1 ≥ 84 then (slotcoderef03_Identify.j1 k1 a0 a1 a2 a3 x11_1 (t210 != a1)) else (slotcoderef03_Identify.j1 k1 a0 a1 a2 a3 x11_1 false))) else (if x11_1 ≥ 84 then (slotcoderef03_Identify.j1 k1 a0 a1 a2 a3 x11_1 (t210 != a1)) else (slotcoderef03_Identify.j1 k1 a0 a1 a2 a3 x11_1 false))) else (slotcoderef03_Identify.j1 k1 a0 a1 a2 a3 x11_1 true)) else (if t213 = 2 then (if t211 = a2 then (if x11_1 ≥ 35 then (if x11_1 ≤ 43 then (if t212 = a3 then (if x11_1 ≥ 84 then (slotcoderef03_Identify.j1 k1 a0 a1 a2 a3 x11_1 (t210 != a1)) else (slotcoderef03_Identify.j1 k1 a0 a1 a2 a3 x11_1 false)) else (slotcoderef03_Identify.j1 k1 a0 a1 a2 a3 x11_1 true)) else (if x11_1 ≥ 84 then (slotcoderef03_Identify.j1 k1 a0 a1 a2 a3 x11_1 (t210 != a1)) else (slotcoderef03_Identify.j1 k1 a0 a1 a2 a3 x11_1 false))) else (if x11_1 ≥ 84 then (slotcoderef03_Identify.j1 k1 a0 a1 a2 a3 x11_1 (t210 != a1)) else (slotcoderef03_Identify.j1 k1 a0 a1 a2 a3 x11_1 false))) else (slotcoderef03_Identify.j1 k1 a0 a1 a2 a3 x11_1 true)) else (if x11_1 ≥ 35 then (if x11_1 ≤ 43 then (if t212 = a3 then (if x11_1 ≥ 84 then (slotcoderef03_Identify.j1 k1 a0 a1 a2 a3 x11_1 (t210 != a1)) else (slotcoderef03_Identify.j1 k1 a0 a1 a2 a3 x11_1 false)) else (slotcoderef03_Identify.j1 k1 a0 a1 a2 a3 x11_1 true)) else (if x11_1 ≥ 84 then (slotcoderef03_Identify.j1 k1 a0 a1 a2 a3 x11_1 (t210 != a1)) else (slotcoderef03_Identify.j1 k1 a0 a1 a2 a3 x11_1 false))) else (if x11_1 ≥ 84 then (slotcoderef03_Identify.j1 k1 a0 a1 a2 a3 x11_1 (t210 != a1)) else (slotcoderef03_Identify.j1 k1 a0 a1 a2 a3 x11_1 false)))))) = some (r1, r2, r3) := H
        have A6 := Aside0.mk A60
        clear A60
        replace H := Option.bind_eq_some_iff.mp H
        obtain ⟨t213, A70, H⟩ := H
        have A7 := Aside0.mk A70
        clear A70
        have HC8 := Aside0.mk H
        clear H
        go_upto_region 6 with (first | ((with_reducible refine gate_callee (f := 66) rfl ?_); refine goesL_ (some 25) rfl rfl Tryd.func66 (by kernel_rfl) rfl #[.int .i64 x11_1] rfl (by (try simp only [List.map_toArray, List.map_cons, List.map_nil]); first | done | rfl | (simp only [List.length_drop, List.length_take]; rfl)) ?_; (with_reducible refine (slotcoderef03_Fixed.calls x11_1 t210 t211 t212 _ A6.out).mono ?_); rintro e w9 ⟨rfl, hb⟩; refine ⟨_, rfl, ?_⟩; have n0_ := Aside0.mk (below_step (by repeat (first | (with_reducible first | exact HB.out | apply below_alloc | apply pw_below_drewN | apply below_drew1) | exact HB.out)) hb); clear HB; have HB := n0_; clear n0_; (try clear hb); (try clear hb2); (try clear hk); (try clear hi)) | ((with_reducible refine gate_callee (f := 25) rfl ?_); refine goesL_ (some 30) rfl rfl Tryd.func25 (by kernel_rfl) rfl #[.int .i64 x11_1] rfl (by (try simp only [List.map_toArray, List.map_cons, List.map_nil]); first | done | rfl | (simp only [List.length_drop, List.length_take]; rfl)) ?_; (with_reducible refine (slotcoderef03_Form.calls k1 x11_1 t213 _ A7.out).mono ?_); rintro e w' ⟨rfl, ⟨nd, rfl⟩⟩; refine ⟨_, rfl, ?_⟩))
        (try simp only [Act.put, List.setIfInBounds_toArray, List.set_cons_zero, List.set_cons_succ])
        go_cut [63] (fun v63 wc => ∃ (kq : Nat) (x63_7 : Bool), v63 = .bool x63_7 ∧ Aside0 (slotcoderef03_Identify.j1 kq a0 a1 a2 a3 x11_1 x63_7 = some (r1, r2, r3)) ∧ Aside0 (kq ≤ k1) ∧ Aside0 (Below w.heap.size w wc))
        case first =>
          have H := HC8.out
          clear HC8
          by_cases c10 : t213 = 0
          · rw [if_pos c10] at H
            have c10b0 : (t213 == 0) = true := beq_iff_eq.mpr c10
            have c10b1 : (t213 != 0) = false := bne_eq_false_iff_eq.mpr c10
            clear c10
            (first | rw [c10b0] | (simp only [i64_w, i32_w]; rw [c10b0]) | skip)
            by_cases c11 : t211 = a2
            · rw [if_pos c11] at H
              have c11b0 : (t211 == a2) = true := beq_iff_eq.mpr c11
              have c11b1 : (t211 != a2) = false := bne_eq_false_iff_eq.mpr c11
              clear c11
              by_cases c12 : x11_1 ≥ 35
              · rw [if_pos c12] at H
                have c12b0 : decide (35 ≤ x11_1) = true := decide_eq_true c12
                clear c12
                by_cases c13 : x11_1 ≤ 43
                · rw [if_pos c13] at H
                  have c13b0 : decide (x11_1 ≤ 43) = true := decide_eq_true c13
                  clear c13
                  by_cases c14 : t212 = a3
                  · rw [if_pos c14] at H
                    have c14b0 : (t212 == a3) = true := beq_iff_eq.mpr c14
                    have c14b1 : (t212 != a3) = false := bne_eq_false_iff_eq.mpr c14
                    clear c14
                    by_cases c15 : x11_1 ≥ 84
                    · rw [if_pos c15] at H
                      have c15b0 : decide (84 ≤ x11_1) = true := decide_eq_true c15
                      clear c15
                      have H' := Aside0.mk H
                      clear H
                      go_wp2
                      go_meet
                      case rel => exact ⟨_, ((t210 != a1)), (by first | rfl | (simp; done) | (simp [*]; done)), H', ⟨by have := HK1.out; first | omega | exact Nat.le_refl _⟩, ⟨by repeat (first | (with_reducible first | exact HB.out | apply below_alloc | apply pw_below_drewN | apply below_drew1) | exact HB.out)⟩⟩
                    · rw [if_neg c15] at H
                      have c15b0 : decide (84 ≤ x11_1) = false := decide_eq_false c15
                      clear c15
                      have H' := Aside0.mk H
                      clear H
                      go_wp2
                      go_meet
                      case rel => exact ⟨_, (false), (by first | rfl | (simp; done) | (simp [*]; done)), H', ⟨by have := HK1.out; first | omega | exact Nat.le_refl _⟩, ⟨by repeat (first | (with_reducible first | exact HB.out | apply below_alloc | apply pw_below_drewN | apply below_drew1) | exact HB.out)⟩⟩
                  · rw [if_neg c14] at H
                    have c14b0 : (t212 == a3) = false := beq_eq_false_iff_ne.mpr c14
                    have c14b1 : (t212 != a3) = true := bne_iff_ne.mpr c14
                    have H' := Aside0.mk H
                    clear H
                    go_wp2
                    go_meet
                    case rel => exact ⟨_, (true), (by first | rfl | (simp; done) | (simp [*]; done)), H', ⟨by have := HK1.out; first | omega | exact Nat.le_refl _⟩, ⟨by repeat (first | (with_reducible first | exact HB.out | apply below_alloc | apply pw_below_drewN | apply below_drew1) | exact HB.out)⟩⟩
                · rw [if_neg c13] at H
                  have c13b0 : decide (x11_1 ≤ 43) = false := decide_eq_false c13
                  clear c13
                  by_cases c16 : x11_1 ≥ 84
                  · rw [if_pos c16] at H
                    have c16b0 : decide (84 ≤ x11_1) = true := decide_eq_true c16
                    clear c16
                    have H' := Aside0.mk H
                    clear H
                    go_wp2
                    go_meet
                    case rel => exact ⟨_, ((t210 != a1)), (by first | rfl | (simp; done) | (simp [*]; done)), H', ⟨by have := HK1.out; first | omega | exact Nat.le_refl _⟩, ⟨by repeat (first | (with_reducible first | exact HB.out | apply below_alloc | apply pw_below_drewN | apply below_drew1) | exact HB.out)⟩⟩
                  · rw [if_neg c16] at H
                    have c16b0 : decide (84 ≤ x11_1) = false := decide_eq_false c16
                    clear c16
                    have H' := Aside0.mk H
                    clear H
                    go_wp2
                    go_meet
                    case rel => exact ⟨_, (false), (by first | rfl | (simp; done) | (simp [*]; done)), H', ⟨by have := HK1.out; first | omega | exact Nat.le_refl _⟩, ⟨by repeat (first | (with_reducible first | exact HB.out | apply below_alloc | apply pw_below_drewN | apply below_drew1) | exact HB.out)⟩⟩
              · rw [if_neg c12] at H
                have c12b0 : decide (35 ≤ x11_1) = false := decide_eq_false c12
                clear c12
                by_cases c17 : x11_1 ≥ 84
                · rw [if_pos c17] at H
                  have c17b0 : decide (84 ≤ x11_1) = true := decide_eq_true c17
                  clear c17
                  have H' := Aside0.mk H
                  clear H
                  go_wp2
                  go_meet
                  case rel => exact ⟨_, ((t210 != a1)), (by first | rfl | (simp; done) | (simp [*]; done)), H', ⟨by have := HK1.out; first | omega | exact Nat.le_refl _⟩, ⟨by repeat (first | (with_reducible first | exact HB.out | apply below_alloc | apply pw_below_drewN | apply below_drew1) | exact HB.out)⟩⟩
                · rw [if_neg c17] at H
                  have c17b0 : decide (84 ≤ x11_1) = false := decide_eq_false c17
                  clear c17
                  have H' := Aside0.mk H
                  clear H
                  go_wp2
                  go_meet
                  case rel => exact ⟨_, (false), (by first | rfl | (simp; done) | (simp [*]; done)), H', ⟨by have := HK1.out; first | omega | exact Nat.le_refl _⟩, ⟨by repeat (first | (with_reducible first | exact HB.out | apply below_alloc | apply pw_below_drewN | apply below_drew1) | exact HB.out)⟩⟩
            · rw [if_neg c11] at H
              have c11b0 : (t211 == a2) = false := beq_eq_false_iff_ne.mpr c11
              have c11b1 : (t211 != a2) = true := bne_iff_ne.mpr c11
              have H' := Aside0.mk H
              clear H
              go_wp2
              go_meet
              case rel => exact ⟨_, (true), (by first | rfl | (simp; done) | (simp [*]; done)), H', ⟨by have := HK1.out; first | omega | exact Nat.le_refl _⟩, ⟨by repeat (first | (with_reducible first | exact HB.out | apply below_alloc | apply pw_below_drewN | apply below_drew1) | exact HB.out)⟩⟩
          · rw [if_neg c10] at H
            have c10b0 : (t213 == 0) = false := beq_eq_false_iff_ne.mpr c10
            have c10b1 : (t213 != 0) = true := bne_iff_ne.mpr c10
            (first | rw [c10b0] | (simp only [i64_w, i32_w]; rw [c10b0]) | skip)
            by_cases c18 : t213 = 2
            · rw [if_pos c18] at H
              have c18b0 : (t213 == 2) = true := beq_iff_eq.mpr c18
              have c18b1 : (t213 != 2) = false := bne_eq_false_iff_eq.mpr c18
              clear c18
              by_cases c19 : t211 = a2
              · rw [if_pos c19] at H
                have c19b0 : (t211 == a2) = true := beq_iff_eq.mpr c19
                have c19b1 : (t211 != a2) = false := bne_eq_false_iff_eq.mpr c19
                clear c19
                by_cases c20 : x11_1 ≥ 35
                · rw [if_pos c20] at H
                  have c20b0 : decide (35 ≤ x11_1) = true := decide_eq_true c20
                  clear c20
                  by_cases c21 : x11_1 ≤ 43
                  · rw [if_pos c21] at H
                    have c21b0 : decide (x11_1 ≤ 43) = true := decide_eq_true c21
                    clear c21
                    by_cases c22 : t212 = a3
                    · rw [if_pos c22] at H
                      have c22b0 : (t212 == a3) = true := beq_iff_eq.mpr c22
                      have c22b1 : (t212 != a3) = false := bne_eq_false_iff_eq.mpr c22
                      clear c22
                      by_cases c23 : x11_1 ≥ 84
                      · rw [if_pos c23] at H
                        have c23b0 : decide (84 ≤ x11_1) = true := decide_eq_true c23
                        clear c23
                        have H' := Aside0.mk H
                        clear H
                        go_wp2
                        go_meet
                        case rel => exact ⟨_, ((t210 != a1)), (by first | rfl | (simp; done) | (simp [*]; done)), H', ⟨by have := HK1.out; first | omega | exact Nat.le_refl _⟩, ⟨by repeat (first | (with_reducible first | exact HB.out | apply below_alloc | apply pw_below_drewN | apply below_drew1) | exact HB.out)⟩⟩
                      · rw [if_neg c23] at H
                        have c23b0 : decide (84 ≤ x11_1) = false := decide_eq_false c23
                        clear c23
                        have H' := Aside0.mk H
                        clear H
                        go_wp2
                        go_meet
                        case rel => exact ⟨_, (false), (by first | rfl | (simp; done) | (simp [*]; done)), H', ⟨by have := HK1.out; first | omega | exact Nat.le_refl _⟩, ⟨by repeat (first | (with_reducible first | exact HB.out | apply below_alloc | apply pw_below_drewN | apply below_drew1) | exact HB.out)⟩⟩
                    · rw [if_neg c22] at H
                      have c22b0 : (t212 == a3) = false := beq_eq_false_iff_ne.mpr c22
                      have c22b1 : (t212 != a3) = true := bne_iff_ne.mpr c22
                      have H' := Aside0.mk H
                      clear H
                      go_wp2
                      go_meet
                      case rel => exact ⟨_, (true), (by first | rfl | (simp; done) | (simp [*]; done)), H', ⟨by have := HK1.out; first | omega | exact Nat.le_refl _⟩, ⟨by repeat (first | (with_reducible first | exact HB.out | apply below_alloc | apply pw_below_drewN | apply below_drew1) | exact HB.out)⟩⟩
                  · rw [if_neg c21] at H
                    have c21b0 : decide (x11_1 ≤ 43) = false := decide_eq_false c21
                    clear c21
                    by_cases c24 : x11_1 ≥ 84
                    · rw [if_pos c24] at H
                      have c24b0 : decide (84 ≤ x11_1) = true := decide_eq_true c24
                      clear c24
                      have H' := Aside0.mk H
                      clear H
                      go_wp2
                      go_meet
                      case rel => exact ⟨_, ((t210 != a1)), (by first | rfl | (simp; done) | (simp [*]; done)), H', ⟨by have := HK1.out; first | omega | exact Nat.le_refl _⟩, ⟨by repeat (first | (with_reducible first | exact HB.out | apply below_alloc | apply pw_below_drewN | apply below_drew1) | exact HB.out)⟩⟩
                    · rw [if_neg c24] at H
                      have c24b0 : decide (84 ≤ x11_1) = false := decide_eq_false c24
                      clear c24
                      have H' := Aside0.mk H
                      clear H
                      go_wp2
                      go_meet
                      case rel => exact ⟨_, (false), (by first | rfl | (simp; done) | (simp [*]; done)), H', ⟨by have := HK1.out; first | omega | exact Nat.le_refl _⟩, ⟨by repeat (first | (with_reducible first | exact HB.out | apply below_alloc | apply pw_below_drewN | apply below_drew1) | exact HB.out)⟩⟩
                · rw [if_neg c20] at H
                  have c20b0 : decide (35 ≤ x11_1) = false := decide_eq_false c20
                  clear c20
                  by_cases c25 : x11_1 ≥ 84
                  · rw [if_pos c25] at H
                    have c25b0 : decide (84 ≤ x11_1) = true := decide_eq_true c25
                    clear c25
                    have H' := Aside0.mk H
                    clear H
                    go_wp2
                    go_meet
                    case rel => exact ⟨_, ((t210 != a1)), (by first | rfl | (simp; done) | (simp [*]; done)), H', ⟨by have := HK1.out; first | omega | exact Nat.le_refl _⟩, ⟨by repeat (first | (with_reducible first | exact HB.out | apply below_alloc | apply pw_below_drewN | apply below_drew1) | exact HB.out)⟩⟩
                  · rw [if_neg c25] at H
                    have c25b0 : decide (84 ≤ x11_1) = false := decide_eq_false c25
                    clear c25
                    have H' := Aside0.mk H
                    clear H
                    go_wp2
                    go_meet
                    case rel => exact ⟨_, (false), (by first | rfl | (simp; done) | (simp [*]; done)), H', ⟨by have := HK1.out; first | omega | exact Nat.le_refl _⟩, ⟨by repeat (first | (with_reducible first | exact HB.out | apply below_alloc | apply pw_below_drewN | apply below_drew1) | exact HB.out)⟩⟩
              · rw [if_neg c19] at H
                have c19b0 : (t211 == a2) = false := beq_eq_false_iff_ne.mpr c19
                have c19b1 : (t211 != a2) = true := bne_iff_ne.mpr c19
                have H' := Aside0.mk H
                clear H
                go_wp2
                go_meet
                case rel => exact ⟨_, (true), (by first | rfl | (simp; done) | (simp [*]; done)), H', ⟨by have := HK1.out; first | omega | exact Nat.le_refl _⟩, ⟨by repeat (first | (with_reducible first | exact HB.out | apply below_alloc | apply pw_below_drewN | apply below_drew1) | exact HB.out)⟩⟩
            · rw [if_neg c18] at H
              have c18b0 : (t213 == 2) = false := beq_eq_false_iff_ne.mpr c18
              have c18b1 : (t213 != 2) = true := bne_iff_ne.mpr c18
              by_cases c26 : x11_1 ≥ 35
              · rw [if_pos c26] at H
                have c26b0 : decide (35 ≤ x11_1) = true := decide_eq_true c26
                clear c26
                by_cases c27 : x11_1 ≤ 43
                · rw [if_pos c27] at H
                  have c27b0 : decide (x11_1 ≤ 43) = true := decide_eq_true c27
                  clear c27
                  by_cases c28 : t212 = a3
                  · rw [if_pos c28] at H
                    have c28b0 : (t212 == a3) = true := beq_iff_eq.mpr c28
                    have c28b1 : (t212 != a3) = false := bne_eq_false_iff_eq.mpr c28
                    clear c28
                    by_cases c29 : x11_1 ≥ 84
                    · rw [if_pos c29] at H
                      have c29b0 : decide (84 ≤ x11_1) = true := decide_eq_true c29
                      clear c29
                      have H' := Aside0.mk H
                      clear H
                      go_wp2
                      go_meet
                      case rel => exact ⟨_, ((t210 != a1)), (by first | rfl | (simp; done) | (simp [*]; done)), H', ⟨by have := HK1.out; first | omega | exact Nat.le_refl _⟩, ⟨by repeat (first | (with_reducible first | exact HB.out | apply below_alloc | apply pw_below_drewN | apply below_drew1) | exact HB.out)⟩⟩
                    · rw [if_neg c29] at H
                      have c29b0 : decide (84 ≤ x11_1) = false := decide_eq_false c29
                      clear c29
                      have H' := Aside0.mk H
                      clear H
                      go_wp2
                      go_meet
                      case rel => exact ⟨_, (false), (by first | rfl | (simp; done) | (simp [*]; done)), H', ⟨by have := HK1.out; first | omega | exact Nat.le_refl _⟩, ⟨by repeat (first | (with_reducible first | exact HB.out | apply below_alloc | apply pw_below_drewN | apply below_drew1) | exact HB.out)⟩⟩
                  · rw [if_neg c28] at H
                    have c28b0 : (t212 == a3) = false := beq_eq_false_iff_ne.mpr c28
                    have c28b1 : (t212 != a3) = true := bne_iff_ne.mpr c28
                    have H' := Aside0.mk H
                    clear H
                    go_wp2
                    go_meet
                    case rel => exact ⟨_, (true), (by first | rfl | (simp; done) | (simp [*]; done)), H', ⟨by have := HK1.out; first | omega | exact Nat.le_refl _⟩, ⟨by repeat (first | (with_reducible first | exact HB.out | apply below_alloc | apply pw_below_drewN | apply below_drew1) | exact HB.out)⟩⟩
                · rw [if_neg c27] at H
                  have c27b0 : decide (x11_1 ≤ 43) = false := decide_eq_false c27
                  clear c27
                  by_cases c30 : x11_1 ≥ 84
                  · rw [if_pos c30] at H
                    have c30b0 : decide (84 ≤ x11_1) = true := decide_eq_true c30
                    clear c30
                    have H' := Aside0.mk H
                    clear H
                    go_wp2
                    go_meet
                    case rel => exact ⟨_, ((t210 != a1)), (by first | rfl | (simp; done) | (simp [*]; done)), H', ⟨by have := HK1.out; first | omega | exact Nat.le_refl _⟩, ⟨by repeat (first | (with_reducible first | exact HB.out | apply below_alloc | apply pw_below_drewN | apply below_drew1) | exact HB.out)⟩⟩
                  · rw [if_neg c30] at H
                    have c30b0 : decide (84 ≤ x11_1) = false := decide_eq_false c30
                    clear c30
                    have H' := Aside0.mk H
                    clear H
                    go_wp2
                    go_meet
                    case rel => exact ⟨_, (false), (by first | rfl | (simp; done) | (simp [*]; done)), H', ⟨by have := HK1.out; first | omega | exact Nat.le_refl _⟩, ⟨by repeat (first | (with_reducible first | exact HB.out | apply below_alloc | apply pw_below_drewN | apply below_drew1) | exact HB.out)⟩⟩
              · rw [if_neg c26] at H
                have c26b0 : decide (35 ≤ x11_1) = false := decide_eq_false c26
                clear c26
                by_cases c31 : x11_1 ≥ 84
                · rw [if_pos c31] at H
                  have c31b0 : decide (84 ≤ x11_1) = true := decide_eq_true c31
                  clear c31
                  have H' := Aside0.mk H
                  clear H
                  go_wp2
                  go_meet
                  case rel => exact ⟨_, ((t210 != a1)), (by first | rfl | (simp; done) | (simp [*]; done)), H', ⟨by have := HK1.out; first | omega | exact Nat.le_refl _⟩, ⟨by repeat (first | (with_reducible first | exact HB.out | apply below_alloc | apply pw_below_drewN | apply below_drew1) | exact HB.out)⟩⟩
                · rw [if_neg c31] at H
                  have c31b0 : decide (84 ≤ x11_1) = false := decide_eq_false c31
                  clear c31
                  have H' := Aside0.mk H
                  clear H
                  go_wp2
                  go_meet
                  case rel => exact ⟨_, (false), (by first | rfl | (simp; done) | (simp [*]; done)), H', ⟨by have := HK1.out; first | omega | exact Nat.le_refl _⟩, ⟨by repeat (first | (with_reducible first | exact HB.out | apply below_alloc | apply pw_below_drewN | apply below_drew1) | exact HB.out)⟩⟩
        case rest =>
          clear HC8
          try clear c1
          try clear c2
          try clear p2
          try clear c3
          try clear c5
          try clear c5b0
          try clear c6
          try clear c7
          try clear c10
          try clear c10b0
          try clear c10b1
          try clear c11
          try clear c11b0
          try clear c11b1
          try clear c12
          try clear c12b0
          try clear c13
          try clear c13b0
          try clear c14
          try clear c14b0
          try clear c14b1
          try clear c15
          try clear c15b0
          try clear c16
          try clear c16b0
          try clear c17
          try clear c17b0
          try clear c18
          try clear c18b0
          try clear c18b1
          try clear c19
          try clear c19b0
          try clear c19b1
          try clear c20
          try clear c20b0
          try clear c21
          try clear c21b0
          try clear c22
          try clear c22b0
          try clear c22b1
          try clear c23
          try clear c23b0
          try clear c24
          try clear c24b0
          try clear c25
          try clear c25b0
          try clear c26
          try clear c26b0
          try clear c27
          try clear c27b0
          try clear c28
          try clear c28b0
          try clear c28b1
          try clear c29
          try clear c29b0
          try clear c30
          try clear c30b0
          try clear c31
          try clear c31b0
          try clear p2
          obtain ⟨kq, x63_7, rfl, HA, HJ7, HB⟩ := hcut
          cases kq with
          | zero => exact absurd HA.out (by simp [slotcoderef03_Identify.j1])
          | succ kj7 =>
            have H := HA.out
            clear HA
            simp only [slotcoderef03_Identify.j1] at H
            by_cases c32 : x63_7 = true
            · subst c32
              have H1 : (slotcoderef03_Identify.l0 kj7 a0 a1 a2 a3 (wrap64 (x11_1 + 1))) = some (r1, r2, r3) := by rw [if_pos rfl] at H; exact H
              clear H
              have H := H1
              clear H1
              have H' := Aside0.mk H
              clear H
              go_wp2
              go_roundg kj7
              case measure => have := HK1.out; have := HJ7.out; omega
              case rel => exact ⟨(wrap64 (x11_1 + 1)), (by first | rfl | (simp; done) | (simp [*]; done)), H', ⟨by have := HK1.out; have := HJ7.out; omega⟩, ⟨by repeat (first | (with_reducible first | exact HB.out | apply below_alloc | apply pw_below_drewN | apply below_drew1) | exact HB.out)⟩⟩
            · replace c32 := Bool.eq_false_iff.mpr c32
              subst c32
              have H1 : ((slotcoderef03_Code.f x11_1 false).bind fun bt214 => (if bt214.1 = a0 then (some (x11_1, false, true)) else ((slotcoderef03_Code.f x11_1 true).bind fun bt216 => (if bt216.2 = true then (if bt216.1 = a0 then (some (x11_1, true, true)) else (slotcoderef03_Identify.l0 kj7 a0 a1 a2 a3 (wrap64 (x11_1 + 1)))) else (slotcoderef03_Identify.l0 kj7 a0 a1 a2 a3 (wrap64 (x11_1 + 1))))))) = some (r1, r2, r3) := by rw [if_neg (show ¬ (false = true) by decide)] at H; exact H
              clear H
              have H := H1
              clear H1
              replace H := Option.bind_eq_some_iff.mp H
              obtain ⟨⟨t214, t215⟩, A330, H⟩ := H
              replace H : (if t214 = a0 then (some (x11_1, false, true)) else ((slotcoderef03_Code.f x11_1 true).bind fun bt216 => (if bt216.2 = true then (if bt216.1 = a0 then (some (x11_1, true, true)) else (slotcoderef03_Identify.l0 kj7 a0 a1 a2 a3 (wrap64 (x11_1 + 1)))) else (slotcoderef03_Identify.l0 kj7 a0 a1 a2 a3 (wrap64 (x11_1 + 1)))))) = some (r1, r2, r3) := H
              have A33 := Aside0.mk A330
              clear A330
              by_cases c34 : t214 = a0
              · rw [if_pos c34] at H
                have c34b0 : (t214 == a0) = true := beq_iff_eq.mpr c34
                have c34b1 : (t214 != a0) = false := bne_eq_false_iff_eq.mpr c34
                clear c34
                simp only [Option.some.injEq, Prod.mk.injEq] at H
                obtain ⟨rfl, rfl, rfl⟩ := H
                go_wp2_with (first | ((with_reducible refine gate_callee (f := 65) rfl ?_); refine goesL_ (some 66) rfl rfl Tryd.func65 (by kernel_rfl) rfl #[.int .i64 x11_1, .bool false] rfl (by (try simp only [List.map_toArray, List.map_cons, List.map_nil]); first | done | rfl | (simp only [List.length_drop, List.length_take]; rfl)) ?_; (with_reducible refine (slotcoderef03_Code.calls x11_1 false t214 t215 _ A33.out).mono ?_); rintro e w35 ⟨rfl, hb⟩; refine ⟨_, rfl, ?_⟩; have n0_ := Aside0.mk (below_step (by repeat (first | (with_reducible first | exact HB.out | apply below_alloc | apply pw_below_drewN | apply below_drew1) | exact HB.out)) hb); clear HB; have HB := n0_; clear n0_; (try clear hb); (try clear hb2); (try clear hk); (try clear hi)))
                go_ret3
                exact ⟨by first | rfl | (simp [errW_none, errW_some] <;> rfl) | (simp [*, errW_none, errW_some] <;> rfl), by repeat (first | (with_reducible first | exact HB.out | apply below_alloc | apply pw_below_drewN | apply below_drew1) | exact HB.out)⟩
              · rw [if_neg c34] at H
                have c34b0 : (t214 == a0) = false := beq_eq_false_iff_ne.mpr c34
                have c34b1 : (t214 != a0) = true := bne_iff_ne.mpr c34
                replace H := Option.bind_eq_some_iff.mp H
                obtain ⟨⟨t216, t217⟩, A360, H⟩ := H
                replace H : (if t217 = true then (if t216 = a0 then (some (x11_1, true, true)) else (slotcoderef03_Identify.l0 kj7 a0 a1 a2 a3 (wrap64 (x11_1 + 1)))) else (slotcoderef03_Identify.l0 kj7 a0 a1 a2 a3 (wrap64 (x11_1 + 1)))) = some (r1, r2, r3) := H
                have A36 := Aside0.mk A360
                clear A360
                by_cases c37 : t217 = true
                · subst c37
                  have H1 : (if t216 = a0 then (some (x11_1, true, true)) else (slotcoderef03_Identify.l0 kj7 a0 a1 a2 a3 (wrap64 (x11_1 + 1)))) = some (r1, r2, r3) := by rw [if_pos rfl] at H; exact H
                  clear H
                  have H := H1
                  clear H1
                  by_cases c38 : t216 = a0
                  · rw [if_pos c38] at H
                    have c38b0 : (t216 == a0) = true := beq_iff_eq.mpr c38
                    have c38b1 : (t216 != a0) = false := bne_eq_false_iff_eq.mpr c38
                    clear c38
                    simp only [Option.some.injEq, Prod.mk.injEq] at H
                    obtain ⟨rfl, rfl, rfl⟩ := H
                    go_wp2_with (first | ((with_reducible refine gate_callee (f := 65) rfl ?_); refine goesL_ (some 66) rfl rfl Tryd.func65 (by kernel_rfl) rfl #[.int .i64 x11_1, .bool false] rfl (by (try simp only [List.map_toArray, List.map_cons, List.map_nil]); first | done | rfl | (simp only [List.length_drop, List.length_take]; rfl)) ?_; (with_reducible refine (slotcoderef03_Code.calls x11_1 false t214 t215 _ A33.out).mono ?_); rintro e w39 ⟨rfl, hb⟩; refine ⟨_, rfl, ?_⟩; have n0_ := Aside0.mk (below_step (by repeat (first | (with_reducible first | exact HB.out | apply below_alloc | apply pw_below_drewN | apply below_drew1) | exact HB.out)) hb); clear HB; have HB := n0_; clear n0_; (try clear hb); (try clear hb2); (try clear hk); (try clear hi)) | ((with_reducible refine gate_callee (f := 65) rfl ?_); refine goesL_ (some 75) rfl rfl Tryd.func65 (by kernel_rfl) rfl #[.int .i64 x11_1, .bool true] rfl (by (try simp only [List.map_toArray, List.map_cons, List.map_nil]); first | done | rfl | (simp only [List.length_drop, List.length_take]; rfl)) ?_; (with_reducible refine (slotcoderef03_Code.calls x11_1 true t216 true _ A36.out).mono ?_); rintro e w40 ⟨rfl, hb⟩; refine ⟨_, rfl, ?_⟩; have n0_ := Aside0.mk (below_step (by repeat (first | (with_reducible first | exact HB.out | apply below_alloc | apply pw_below_drewN | apply below_drew1) | exact HB.out)) hb); clear HB; have HB := n0_; clear n0_; (try clear hb); (try clear hb2); (try clear hk); (try clear hi)))
                    go_ret3
                    exact ⟨by first | rfl | (simp [errW_none, errW_some] <;> rfl) | (simp [*, errW_none, errW_some] <;> rfl), by repeat (first | (with_reducible first | exact HB.out | apply below_alloc | apply pw_below_drewN | apply below_drew1) | exact HB.out)⟩
                  · rw [if_neg c38] at H
                    have c38b0 : (t216 == a0) = false := beq_eq_false_iff_ne.mpr c38
                    have c38b1 : (t216 != a0) = true := bne_iff_ne.mpr c38
                    have H' := Aside0.mk H
                    clear H
                    go_wp2_with (first | ((with_reducible refine gate_callee (f := 65) rfl ?_); refine goesL_ (some 66) rfl rfl Tryd.func65 (by kernel_rfl) rfl #[.int .i64 x11_1, .bool false] rfl (by (try simp only [List.map_toArray, List.map_cons, List.map_nil]); first | done | rfl | (simp only [List.length_drop, List.length_take]; rfl)) ?_; (with_reducible refine (slotcoderef03_Code.calls x11_1 false t214 t215 _ A33.out).mono ?_); rintro e w41 ⟨rfl, hb⟩; refine ⟨_, rfl, ?_⟩; have n0_ := Aside0.mk (below_step (by repeat (first | (with_reducible first | exact HB.out | apply below_alloc | apply pw_below_drewN | apply below_drew1) | exact HB.out)) hb); clear HB; have HB := n0_; clear n0_; (try clear hb); (try clear hb2); (try clear hk); (try clear hi)) | ((with_reducible refine gate_callee (f := 65) rfl ?_); refine goesL_ (some 75) rfl rfl Tryd.func65 (by kernel_rfl) rfl #[.int .i64 x11_1, .bool true] rfl (by (try simp only [List.map_toArray, List.map_cons, List.map_nil]); first | done | rfl | (simp only [List.length_drop, List.length_take]; rfl)) ?_; (with_reducible refine (slotcoderef03_Code.calls x11_1 true t216 true _ A36.out).mono ?_); rintro e w42 ⟨rfl, hb⟩; refine ⟨_, rfl, ?_⟩; have n0_ := Aside0.mk (below_step (by repeat (first | (with_reducible first | exact HB.out | apply below_alloc | apply pw_below_drewN | apply below_drew1) | exact HB.out)) hb); clear HB; have HB := n0_; clear n0_; (try clear hb); (try clear hb2); (try clear hk); (try clear hi)))
                    go_roundg kj7
                    case measure => have := HK1.out; have := HJ7.out; omega
                    case rel => exact ⟨(wrap64 (x11_1 + 1)), (by first | rfl | (simp; done) | (simp [*]; done)), H', ⟨by have := HK1.out; have := HJ7.out; omega⟩, ⟨by repeat (first | (with_reducible first | exact HB.out | apply below_alloc | apply pw_below_drewN | apply below_drew1) | exact HB.out)⟩⟩
                · replace c37 := Bool.eq_false_iff.mpr c37
                  subst c37
                  have H1 : (slotcoderef03_Identify.l0 kj7 a0 a1 a2 a3 (wrap64 (x11_1 + 1))) = some (r1, r2, r3) := by rw [if_neg (show ¬ (false = true) by decide)] at H; exact H
                  clear H
                  have H := H1
                  clear H1
                  have H' := Aside0.mk H
                  clear H
                  go_wp2_with (first | ((with_reducible refine gate_callee (f := 65) rfl ?_); refine goesL_ (some 66) rfl rfl Tryd.func65 (by kernel_rfl) rfl #[.int .i64 x11_1, .bool false] rfl (by (try simp only [List.map_toArray, List.map_cons, List.map_nil]); first | done | rfl | (simp only [List.length_drop, List.length_take]; rfl)) ?_; (with_reducible refine (slotcoderef03_Code.calls x11_1 false t214 t215 _ A33.out).mono ?_); rintro e w43 ⟨rfl, hb⟩; refine ⟨_, rfl, ?_⟩; have n0_ := Aside0.mk (below_step (by repeat (first | (with_reducible first | exact HB.out | apply below_alloc | apply pw_below_drewN | apply below_drew1) | exact HB.out)) hb); clear HB; have HB := n0_; clear n0_; (try clear hb); (try clear hb2); (try clear hk); (try clear hi)) | ((with_reducible refine gate_callee (f := 65) rfl ?_); refine goesL_ (some 75) rfl rfl Tryd.func65 (by kernel_rfl) rfl #[.int .i64 x11_1, .bool true] rfl (by (try simp only [List.map_toArray, List.map_cons, List.map_nil]); first | done | rfl | (simp only [List.length_drop, List.length_take]; rfl)) ?_; (with_reducible refine (slotcoderef03_Code.calls x11_1 true t216 false _ A36.out).mono ?_); rintro e w44 ⟨rfl, hb⟩; refine ⟨_, rfl, ?_⟩; have n0_ := Aside0.mk (below_step (by repeat (first | (with_reducible first | exact HB.out | apply below_alloc | apply pw_below_drewN | apply below_drew1) | exact HB.out)) hb); clear HB; have HB := n0_; clear n0_; (try clear hb); (try clear hb2); (try clear hk); (try clear hi)))
                  go_roundg kj7
                  case measure => have := HK1.out; have := HJ7.out; omega
                  case rel => exact ⟨(wrap64 (x11_1 + 1)), (by first | rfl | (simp; done) | (simp [*]; done)), H', ⟨by have := HK1.out; have := HJ7.out; omega⟩, ⟨by repeat (first | (with_reducible first | exact HB.out | apply below_alloc | apply pw_below_drewN | apply below_drew1) | exact HB.out)⟩⟩
      · rw [if_neg c5] at H
        have c5b0 : decide (x11_1 ≤ 85) = false := decide_eq_false c5
        clear c5
        simp only [Option.some.injEq, Prod.mk.injEq] at H
        obtain ⟨rfl, rfl, rfl⟩ := H
        go_wp2
        go_ret3
        exact ⟨by first | rfl | (simp [errW_none, errW_some] <;> rfl) | (simp [*, errW_none, errW_some] <;> rfl), by repeat (first | (with_reducible first | exact HB.out | apply below_alloc | apply pw_below_drewN | apply below_drew1) | exact HB.out)⟩

-- NOT PRINTED: function 86 (ops_op_matches)

-- GIVEN: function 70 (ops_Identify)

end Go.Proofs.YtnllfppkfdnjpabDoor.Q
