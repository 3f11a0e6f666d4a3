-- PRINTED by print.py (a twelfth state) out of the translation. Not trusted: Lean checks it.
import Derived.Test.YtgdfeehpbccbnaaDoorQx0
import Derived.Test.YtgdfeehpbccbnaaDoorQx4
namespace Go.Proofs.YtgdfeehpbccbnaaDoor.Q
open Go.RowKit Go.Proofs.YtgdfeehpbccbnaaDoorW.PrintWords Go.Proofs.YtgdfeehpbccbnaaDoorW.PrintLast Go.Proofs.YtgdfeehpbccbnaaDoorW.PrintMore
attribute [local go_sem] max2_int min2_int max_two min_two max_three min_three max_four min_four   -- for this text's walks alone
set_option linter.unusedVariables false
set_option linter.unusedSimpArgs false

/-! ### slotcoderef03_Bits: function 21 -/
mutual
def slotcoderef03_Bits.j0 : Nat → Int → List Int → Bool → Option (Int)
  | 0, _, _, _ => none
  | k + 1, x0, x3, x5 => if x5 = true then (some 0) else (if x0 ≥ 35 then (slotcoderef03_Bits.j1 k x0 x3 (decide (x0 ≤ 43))) else (slotcoderef03_Bits.j1 k x0 x3 false))
def slotcoderef03_Bits.j1 : Nat → Int → List Int → Bool → Option (Int)
  | 0, _, _, _ => none
  | k + 1, x0, x3, x21 => if x21 = true then ((some (([16, 32, 64] : List Int) : List Int)).bind fun y133 => (if 0 ≤ (Int.tmod (wrap64 (x0 - 35)) 3) then (if (Int.tmod (wrap64 (x0 - 35)) 3) < (y133.length : Int) then (some (rd y133 (Int.tmod (wrap64 (x0 - 35)) 3))) else (none)) else (none))) else (if x0 ≥ 69 then (slotcoderef03_Bits.j2 k x0 x3 (decide (x0 ≤ 75))) else (slotcoderef03_Bits.j2 k x0 x3 false))
def slotcoderef03_Bits.j2 : Nat → Int → List Int → Bool → Option (Int)
  | 0, _, _, _ => none
  | k + 1, x0, x3, x34 => if x34 = true then (if 0 ≤ (wrap64 (x0 - 69)) then (if (wrap64 (x0 - 69)) < (x3.length : Int) then (some (rd x3 (wrap64 (x0 - 69)))) else (none)) else (none)) else (if x0 ≥ 76 then (slotcoderef03_Bits.j3 k x0 x3 (decide (x0 ≤ 83))) else (slotcoderef03_Bits.j3 k x0 x3 false))
def slotcoderef03_Bits.j3 : Nat → Int → List Int → Bool → Option (Int)
  | 0, _, _, _ => none
  | k + 1, x0, x3, x46 => if x46 = true then (if 0 ≤ (Int.tmod (wrap64 (x0 - 76)) 4) then (if (Int.tmod (wrap64 (x0 - 76)) 4) < (x3.length : Int) then (some (rd x3 (Int.tmod (wrap64 (x0 - 76)) 4))) else (none)) else (none)) else (if x0 ≥ 14 then (if x0 ≤ 27 then (some 32) else (if x0 = 29 then (some 32) else (if x0 = 33 then (some 32) else (if x0 = 34 then (some 32) else (if x0 ≥ 56 then (if x0 ≤ 66 then (some 32) else (some 64)) else (some 64)))))) else (if x0 = 29 then (some 32) else (if x0 = 33 then (some 32) else (if x0 = 34 then (some 32) else (if x0 ≥ 56 then (if x0 ≤ 66 then (some 32) else (some 64)) else (some 64))))))
end
def slotcoderef03_Bits.f (k : Nat) (a0 : Int) : Option (Int) := (some (([8, 16, 32, 64, 8, 16, 32] : List Int) : List Int)).bind fun y129 => ((slotcoderef03_Right.f a0).bind fun t132 => (if t132 = true then (if a0 = 44 then (slotcoderef03_Bits.j0 k a0 y129 true) else (if a0 = 67 then (slotcoderef03_Bits.j0 k a0 y129 true) else (slotcoderef03_Bits.j0 k a0 y129 (a0 == 68)))) else (slotcoderef03_Bits.j0 k a0 y129 true)))
theorem slotcoderef03_Bits.mono_l : ∀ k, (∀ y0 y1 y2, LeO (slotcoderef03_Bits.j0 k y0 y1 y2) (slotcoderef03_Bits.j0 (k + 1) y0 y1 y2)) ∧ (∀ y0 y1 y2, LeO (slotcoderef03_Bits.j1 k y0 y1 y2) (slotcoderef03_Bits.j1 (k + 1) y0 y1 y2)) ∧ (∀ y0 y1 y2, LeO (slotcoderef03_Bits.j2 k y0 y1 y2) (slotcoderef03_Bits.j2 (k + 1) y0 y1 y2)) ∧ (∀ y0 y1 y2, LeO (slotcoderef03_Bits.j3 k y0 y1 y2) (slotcoderef03_Bits.j3 (k + 1) y0 y1 y2))
  | 0 => ⟨fun _ _ _ r h => by simp [slotcoderef03_Bits.j0] at h, fun _ _ _ r h => by simp [slotcoderef03_Bits.j1] at h, fun _ _ _ r h => by simp [slotcoderef03_Bits.j2] at h, fun _ _ _ r h => by simp [slotcoderef03_Bits.j3] at h⟩
  | k + 1 => by
    obtain ⟨ih0, ih1, ih2, ih3⟩ := slotcoderef03_Bits.mono_l k
    refine ⟨?_, ?_, ?_, ?_⟩
    · intro y0 y1 y2
      unfold slotcoderef03_Bits.j0
      repeat' first
      | (with_reducible exact ih0 _ _ _)
      | (with_reducible exact ih1 _ _ _)
      | (with_reducible exact ih2 _ _ _)
      | (with_reducible exact ih3 _ _ _)
      | (with_reducible exact LeO.refl _)
      | (with_reducible exact LeO.none _)
      | (with_reducible refine LeO.ite ?_ ?_)
      | (with_reducible refine LeO.bind ?_ (fun _ => ?_))
      | exact ih0 _ _ _
      | exact ih1 _ _ _
      | exact ih2 _ _ _
      | exact ih3 _ _ _
      | exact LeO.none _
      | refine LeO.ite ?_ ?_
      | refine LeO.bind ?_ (fun _ => ?_)
    · intro y0 y1 y2
      unfold slotcoderef03_Bits.j1
      repeat' first
      | (with_reducible exact ih0 _ _ _)
      | (with_reducible exact ih1 _ _ _)
      | (with_reducible exact ih2 _ _ _)
      | (with_reducible exact ih3 _ _ _)
      | (with_reducible exact LeO.refl _)
      | (with_reducible exact LeO.none _)
      | (with_reducible refine LeO.ite ?_ ?_)
      | (with_reducible refine LeO.bind ?_ (fun _ => ?_))
      | exact ih0 _ _ _
      | exact ih1 _ _ _
      | exact ih2 _ _ _
      | exact ih3 _ _ _
      | exact LeO.none _
      | refine LeO.ite ?_ ?_
      | refine LeO.bind ?_ (fun _ => ?_)
    · intro y0 y1 y2
      unfold slotcoderef03_Bits.j2
      repeat' first
      | (with_reducible exact ih0 _ _ _)
      | (with_reducible exact ih1 _ _ _)
      | (with_reducible exact ih2 _ _ _)
      | (with_reducible exact ih3 _ _ _)
      | (with_reducible exact LeO.refl _)
      | (with_reducible exact LeO.none _)
      | (with_reducible refine LeO.ite ?_ ?_)
      | (with_reducible refine LeO.bind ?_ (fun _ => ?_))
      | exact ih0 _ _ _
      | exact ih1 _ _ _
      | exact ih2 _ _ _
      | exact ih3 _ _ _
      | exact LeO.none _
      | refine LeO.ite ?_ ?_
      | refine LeO.bind ?_ (fun _ => ?_)
    · intro y0 y1 y2
      unfold slotcoderef03_Bits.j3
      repeat' first
      | (with_reducible exact ih0 _ _ _)
      | (with_reducible exact ih1 _ _ _)
      | (with_reducible exact ih2 _ _ _)
      | (with_reducible exact ih3 _ _ _)
      | (with_reducible exact LeO.refl _)
      | (with_reducible exact LeO.none _)
      | (with_reducible refine LeO.ite ?_ ?_)
      | (with_reducible refine LeO.bind ?_ (fun _ => ?_))
      | exact ih0 _ _ _
      | exact ih1 _ _ _
      | exact ih2 _ _ _
      | exact ih3 _ _ _
      | exact LeO.none _
      | refine LeO.ite ?_ ?_
      | refine LeO.bind ?_ (fun _ => ?_)
theorem slotcoderef03_Bits.mono : ∀ a0 k, LeO (slotcoderef03_Bits.f k a0) (slotcoderef03_Bits.f (k + 1) a0) := by
  intro a0 k
  obtain ⟨ih0, ih1, ih2, ih3⟩ := slotcoderef03_Bits.mono_l k
  unfold slotcoderef03_Bits.f
  repeat' first
      | (with_reducible exact ih0 _ _ _)
      | (with_reducible exact ih1 _ _ _)
      | (with_reducible exact ih2 _ _ _)
      | (with_reducible exact ih3 _ _ _)
      | (with_reducible exact LeO.refl _)
      | (with_reducible exact LeO.none _)
      | (with_reducible refine LeO.ite ?_ ?_)
      | (with_reducible refine LeO.bind ?_ (fun _ => ?_))
      | exact ih0 _ _ _
      | exact ih1 _ _ _
      | exact ih2 _ _ _
      | exact ih3 _ _ _
      | exact LeO.none _
      | refine LeO.ite ?_ ?_
      | refine LeO.bind ?_ (fun _ => ?_)
set_option maxHeartbeats 8000000 in
set_option maxRecDepth 100000 in
theorem slotcoderef03_Bits.calls (k : Nat) (a0 : Int) (r : Int) (w : World) (h : slotcoderef03_Bits.f k a0 = some r) :
    Calls Tryd.prog 21 #[.int .i64 a0] w fun e w' => e = .returned (.int .i64 r) ∧ Below w.heap.size w w' := by
  have HB := Aside0.mk (Below.refl w.heap.size w)
  have H : ((some (([8, 16, 32, 64, 8, 16, 32] : List Int) : List Int)).bind fun y129 => ((slotcoderef03_Right.f a0).bind fun t132 => (if t132 = true then (if a0 = 44 then (slotcoderef03_Bits.j0 k a0 y129 true) else (if a0 = 67 then (slotcoderef03_Bits.j0 k a0 y129 true) else (slotcoderef03_Bits.j0 k a0 y129 (a0 == 68)))) else (slotcoderef03_Bits.j0 k a0 y129 true)))) = some r := h
  clear h
  obtain ⟨y129, hy129⟩ : ∃ y_ : List Int, y_ = (([8, 16, 32, 64, 8, 16, 32] : List Int)) := ⟨_, rfl⟩
  replace H : ((slotcoderef03_Right.f a0).bind fun t132 => (if t132 = true then (if a0 = 44 then (slotcoderef03_Bits.j0 k a0 y129 true) else (if a0 = 67 then (slotcoderef03_Bits.j0 k a0 y129 true) else (slotcoderef03_Bits.j0 k a0 y129 (a0 == 68)))) else (slotcoderef03_Bits.j0 k a0 y129 true))) = some r := by first | (rw [hy129]; with_reducible exact H) | (have H2_ := (Option.bind_some _ _).symm.trans H; rw [hy129]; with_reducible exact H2_) | (have H2_ := (Option.bind_some _ _).symm.trans H; with_reducible exact H2_) | with_reducible exact H | (rw [hy129]; exact H) | exact H
  have Ny129 := Aside0.mk hy129
  clear hy129
  have HC2 := Aside0.mk H
  clear H
  go_enter Tryd.func21, Tryd.ntmps21
  go_upto_region 2 with (first | ((with_reducible refine gate_dst (N := 4) rfl ?_); refine Kd.R_lit (Kd.int .i64) _ 3 ?hg (N := 4) ?hd (xs := ([8, 16, 32, 64, 8, 16, 32] : List Int)) (inner := [.int .i64 8, .int .i64 16, .int .i64 32, .int .i64 64, .int .i64 8, .int .i64 16, .int .i64 32]) (ok := fun _ => True) (okp := fun _ => True) ?hr ?hp (fun _ hk => hk) trivial (Below.refl _ _) (Nat.le_refl _) (by simp) ?_; (case hd => rfl); (case hg => rfl); (case hr => first | (go_simp; done) | (go_simp; rfl)); (case hp => exact (Reps.one (show Kd.M (Kd.int .i64) _ _ _ 8 [.int .i64 8] from rfl) (Reps.one (show Kd.M (Kd.int .i64) _ _ _ 16 [.int .i64 16] from rfl) (Reps.one (show Kd.M (Kd.int .i64) _ _ _ 32 [.int .i64 32] from rfl) (Reps.one (show Kd.M (Kd.int .i64) _ _ _ 64 [.int .i64 64] from rfl) (Reps.one (show Kd.M (Kd.int .i64) _ _ _ 8 [.int .i64 8] from rfl) (Reps.one (show Kd.M (Kd.int .i64) _ _ _ 16 [.int .i64 16] from rfl) (Reps.one (show Kd.M (Kd.int .i64) _ _ _ 32 [.int .i64 32] from rfl) (Reps.none _ _))))))))); intro v130 w3 ho4 hb hg_ hnew_; clear hg_ hnew_; (first | rw [← Ny129.out] at ho4 | (simp only [Int.reduceToNat] at ho4; rw [← Ny129.out] at ho4)); have n0_ := Aside0.mk (Kd.R_lower ho4 (below_size (by repeat (first | (with_reducible first | exact HB.out | apply below_alloc | apply pw_below_drewN | apply below_drew1) | exact HB.out)))); have n1_ := Aside0.mk (below_step (by repeat (first | (with_reducible first | exact HB.out | apply below_alloc | apply pw_below_drewN | apply below_drew1) | exact HB.out)) hb); clear HB; have HO131 := n0_; have HB := n1_; clear n0_ n1_; clear hb ho4))
  (try simp only [Act.put, List.setIfInBounds_toArray, List.set_cons_zero, List.set_cons_succ])
  go_cut [5] (fun v5 wc => ∃ (kq : Nat) (x5_1 : Bool), v5 = .bool x5_1 ∧ Aside0 (slotcoderef03_Bits.j0 kq a0 y129 x5_1 = some r) ∧ Aside0 (kq ≤ k) ∧ Aside0 (Kd.R (Kd.int .i64) 3 wc w.heap.size (fun _ => True) v130 y129) ∧ Aside0 (Below w.heap.size w wc))
  case first =>
    have H := HC2.out
    clear HC2
    replace H := Option.bind_eq_some_iff.mp H
    obtain ⟨t132, A50, H⟩ := H
    replace H : (if t132 = true then (if a0 = 44 then (slotcoderef03_Bits.j0 k a0 y129 true) else (if a0 = 67 then (slotcoderef03_Bits.j0 k a0 y129 true) else (slotcoderef03_Bits.j0 k a0 y129 (a0 == 68)))) else (slotcoderef03_Bits.j0 k a0 y129 true)) = some r := H
    have A5 := Aside0.mk A50
    clear A50
    by_cases c6 : t132 = true
    · subst c6
      have H1 : (if a0 = 44 then (slotcoderef03_Bits.j0 k a0 y129 true) else (if a0 = 67 then (slotcoderef03_Bits.j0 k a0 y129 true) else (slotcoderef03_Bits.j0 k a0 y129 (a0 == 68)))) = some r := by rw [if_pos rfl] at H; exact H
      clear H
      have H := H1
      clear H1
      by_cases c7 : a0 = 44
      · rw [if_pos c7] at H
        have c7b0 : (a0 == 44) = true := beq_iff_eq.mpr c7
        have c7b1 : (a0 != 44) = false := bne_eq_false_iff_eq.mpr c7
        clear c7
        (first | rw [c7b0] | (simp only [i64_w, i32_w]; rw [c7b0]) | skip)
        have H' := Aside0.mk H
        clear H
        go_wp2_with (first | ((with_reducible refine gate_callee (f := 48) rfl ?_); refine goesL_ (some 7) rfl rfl Tryd.func48 (by kernel_rfl) rfl #[.int .i64 a0] rfl (by (try simp only [List.map_toArray, List.map_cons, List.map_nil]); first | done | rfl | (simp only [List.length_drop, List.length_take]; rfl)) ?_; (with_reducible refine (slotcoderef03_Right.calls a0 true _ A5.out).mono ?_); rintro e w' ⟨rfl, ⟨nd, rfl⟩⟩; refine ⟨_, rfl, ?_⟩))
        go_meet
        case rel => exact ⟨_, (true), (by first | rfl | (simp; done) | (simp [*]; done)), H', ⟨by first | omega | exact Nat.le_refl _⟩, ⟨by (with_reducible repeat (first | apply Kd.R_alloc | apply Kd.R_drewN | apply Kd.R_drew)); exact HO131.out⟩, ⟨by repeat (first | (with_reducible first | exact HB.out | apply below_alloc | apply pw_below_drewN | apply below_drew1) | exact HB.out)⟩⟩
      · rw [if_neg c7] at H
        have c7b0 : (a0 == 44) = false := beq_eq_false_iff_ne.mpr c7
        have c7b1 : (a0 != 44) = true := bne_iff_ne.mpr c7
        (first | rw [c7b0] | (simp only [i64_w, i32_w]; rw [c7b0]) | skip)
        by_cases c8 : a0 = 67
        · rw [if_pos c8] at H
          have c8b0 : (a0 == 67) = true := beq_iff_eq.mpr c8
          have c8b1 : (a0 != 67) = false := bne_eq_false_iff_eq.mpr c8
          clear c8
          have H' := Aside0.mk H
          clear H
          go_wp2_with (first | ((with_reducible refine gate_callee (f := 48) rfl ?_); refine goesL_ (some 7) rfl rfl Tryd.func48 (by kernel_rfl) rfl #[.int .i64 a0] rfl (by (try simp only [List.map_toArray, List.map_cons, List.map_nil]); first | done | rfl | (simp only [List.length_drop, List.length_take]; rfl)) ?_; (with_reducible refine (slotcoderef03_Right.calls a0 true _ A5.out).mono ?_); rintro e w' ⟨rfl, ⟨nd, rfl⟩⟩; refine ⟨_, rfl, ?_⟩))
          go_meet
          case rel => exact ⟨_, (true), (by first | rfl | (simp; done) | (simp [*]; done)), H', ⟨by first | omega | exact Nat.le_refl _⟩, ⟨by (with_reducible repeat (first | apply Kd.R_alloc | apply Kd.R_drewN | apply Kd.R_drew)); exact HO131.out⟩, ⟨by repeat (first | (with_reducible first | exact HB.out | apply below_alloc | apply pw_below_drewN | apply below_drew1) | exact HB.out)⟩⟩
        · rw [if_neg c8] at H
          have c8b0 : (a0 == 67) = false := beq_eq_false_iff_ne.mpr c8
          have c8b1 : (a0 != 67) = true := bne_iff_ne.mpr c8
          have H' := Aside0.mk H
          clear H
          go_wp2_with (first | ((with_reducible refine gate_callee (f := 48) rfl ?_); refine goesL_ (some 7) rfl rfl Tryd.func48 (by kernel_rfl) rfl #[.int .i64 a0] rfl (by (try simp only [List.map_toArray, List.map_cons, List.map_nil]); first | done | rfl | (simp only [List.length_drop, List.length_take]; rfl)) ?_; (with_reducible refine (slotcoderef03_Right.calls a0 true _ A5.out).mono ?_); rintro e w' ⟨rfl, ⟨nd, rfl⟩⟩; refine ⟨_, rfl, ?_⟩))
          go_meet
          case rel => exact ⟨_, ((a0 == 68)), (by first | rfl | (simp; done) | (simp [*]; done)), H', ⟨by first | omega | exact Nat.le_refl _⟩, ⟨by (with_reducible repeat (first | apply Kd.R_alloc | apply Kd.R_drewN | apply Kd.R_drew)); exact HO131.out⟩, ⟨by repeat (first | (with_reducible first | exact HB.out | apply below_alloc | apply pw_below_drewN | apply below_drew1) | exact HB.out)⟩⟩
    · replace c6 := Bool.eq_false_iff.mpr c6
      subst c6
      have H1 : (slotcoderef03_Bits.j0 k a0 y129 true) = some r := by rw [if_neg (show ¬ (false = true) by decide)] at H; exact H
      clear H
      have H := H1
      clear H1
      have H' := Aside0.mk H
      clear H
      go_wp2_with (first | ((with_reducible refine gate_callee (f := 48) rfl ?_); refine goesL_ (some 7) rfl rfl Tryd.func48 (by kernel_rfl) rfl #[.int .i64 a0] rfl (by (try simp only [List.map_toArray, List.map_cons, List.map_nil]); first | done | rfl | (simp only [List.length_drop, List.length_take]; rfl)) ?_; (with_reducible refine (slotcoderef03_Right.calls a0 false _ A5.out).mono ?_); rintro e w' ⟨rfl, ⟨nd, rfl⟩⟩; refine ⟨_, rfl, ?_⟩))
      go_meet
      case rel => exact ⟨_, (true), (by first | rfl | (simp; done) | (simp [*]; done)), H', ⟨by first | omega | exact Nat.le_refl _⟩, ⟨by (with_reducible repeat (first | apply Kd.R_alloc | apply Kd.R_drewN | apply Kd.R_drew)); exact HO131.out⟩, ⟨by repeat (first | (with_reducible first | exact HB.out | apply below_alloc | apply pw_below_drewN | apply below_drew1) | exact HB.out)⟩⟩
  case rest =>
    clear HC2
    try clear c2
    try clear p2
    try clear c4
    try clear c6
    try clear c7
    try clear c7b0
    try clear c7b1
    try clear c8
    try clear c8b0
    try clear c8b1
    obtain ⟨kq, x5_1, rfl, HA, HJ1, HO_3, HB⟩ := hcut
    cases kq with
    | zero => exact absurd HA.out (by simp [slotcoderef03_Bits.j0])
    | succ kj1 =>
      have H := HA.out
      clear HA
      simp only [slotcoderef03_Bits.j0] at H
      by_cases c9 : x5_1 = true
      · subst c9
        have H1 : (some 0) = some r := by rw [if_pos rfl] at H; exact H
        clear H
        have H := H1
        clear H1
        obtain rfl := Option.some.inj H
        go_wp2
        go_ret
        exact ⟨by first | rfl | (simp [errW_none, errW_some] <;> rfl) | (simp [*, errW_none, errW_some] <;> rfl), by repeat (first | (with_reducible first | exact HB.out | apply below_alloc | apply pw_below_drewN | apply below_drew1) | exact HB.out)⟩
      · replace c9 := Bool.eq_false_iff.mpr c9
        subst c9
        have H1 : (if a0 ≥ 35 then (slotcoderef03_Bits.j1 kj1 a0 y129 (decide (a0 ≤ 43))) else (slotcoderef03_Bits.j1 kj1 a0 y129 false)) = some r := by rw [if_neg (show ¬ (false = true) by decide)] at H; exact H
        clear H
        have H := H1
        clear H1
        have HC10 := Aside0.mk H
        clear H
        go_upto_region 4 with (fail)
        go_cut [21] (fun v21 wc => ∃ (kq : Nat) (x21_9 : Bool), v21 = .bool x21_9 ∧ Aside0 (slotcoderef03_Bits.j1 kq a0 y129 x21_9 = some r) ∧ Aside0 (kq ≤ kj1) ∧ Aside0 (Kd.R (Kd.int .i64) 3 wc w.heap.size (fun _ => True) v130 y129) ∧ Aside0 (Below w.heap.size w wc))
        case first =>
          have H := HC10.out
          clear HC10
          by_cases c11 : a0 ≥ 35
          · rw [if_pos c11] at H
            have c11b0 : decide (35 ≤ a0) = true := decide_eq_true c11
            clear c11
            (first | rw [c11b0] | (simp only [i64_w, i32_w]; rw [c11b0]) | skip)
            have H' := Aside0.mk H
            clear H
            go_wp2
            go_meet
            case rel => exact ⟨_, (decide (a0 ≤ 43)), (by first | rfl | (simp; done) | (simp [*]; done)), H', ⟨by have := HJ1.out; first | omega | exact Nat.le_refl _⟩, ⟨by (with_reducible repeat (first | apply Kd.R_alloc | apply Kd.R_drewN | apply Kd.R_drew)); exact HO_3.out⟩, ⟨by repeat (first | (with_reducible first | exact HB.out | apply below_alloc | apply pw_below_drewN | apply below_drew1) | exact HB.out)⟩⟩
          · rw [if_neg c11] at H
            have c11b0 : decide (35 ≤ a0) = false := decide_eq_false c11
            clear c11
            (first | rw [c11b0] | (simp only [i64_w, i32_w]; rw [c11b0]) | skip)
            have H' := Aside0.mk H
            clear H
            go_wp2
            go_meet
            case rel => exact ⟨_, (false), (by first | rfl | (simp; done) | (simp [*]; done)), H', ⟨by have := HJ1.out; first | omega | exact Nat.le_refl _⟩, ⟨by (with_reducible repeat (first | apply Kd.R_alloc | apply Kd.R_drewN | apply Kd.R_drew)); exact HO_3.out⟩, ⟨by repeat (first | (with_reducible first | exact HB.out | apply below_alloc | apply pw_below_drewN | apply below_drew1) | exact HB.out)⟩⟩
        case rest =>
          clear HC10
          try clear c1
          try clear c2
          try clear p2
          try clear c4
          try clear c6
          try clear c7
          try clear c7b0
          try clear c7b1
          try clear c8
          try clear c8b0
          try clear c8b1
          try clear c9
          try clear c11
          try clear c11b0
          try clear p2
          obtain ⟨kq, x21_9, rfl, HA, HJ9, HO_3, HB⟩ := hcut
          cases kq with
          | zero => exact absurd HA.out (by simp [slotcoderef03_Bits.j1])
          | succ kj9 =>
            have H := HA.out
            clear HA
            simp only [slotcoderef03_Bits.j1] at H
            by_cases c12 : x21_9 = true
            · subst c12
              have H1 : ((some (([16, 32, 64] : List Int) : List Int)).bind fun y133 => (if 0 ≤ (Int.tmod (wrap64 (a0 - 35)) 3) then (if (Int.tmod (wrap64 (a0 - 35)) 3) < (y133.length : Int) then (some (rd y133 (Int.tmod (wrap64 (a0 - 35)) 3))) else (none)) else (none))) = some r := by rw [if_pos rfl] at H; exact H
              clear H
              have H := H1
              clear H1
              obtain ⟨y133, hy133⟩ : ∃ y_ : List Int, y_ = (([16, 32, 64] : List Int)) := ⟨_, rfl⟩
              replace H : (if 0 ≤ (Int.tmod (wrap64 (a0 - 35)) 3) then (if (Int.tmod (wrap64 (a0 - 35)) 3) < (y133.length : Int) then (some (rd y133 (Int.tmod (wrap64 (a0 - 35)) 3))) else (none)) else (none)) = some r := by first | (rw [hy133]; with_reducible exact H) | (have H2_ := (Option.bind_some _ _).symm.trans H; rw [hy133]; with_reducible exact H2_) | (have H2_ := (Option.bind_some _ _).symm.trans H; with_reducible exact H2_) | with_reducible exact H | (rw [hy133]; exact H) | exact H
              have Ny133 := Aside0.mk hy133
              clear hy133
              obtain ⟨ji13, hji13⟩ : ∃ j_ : Int, (Int.tmod (wrap64 (a0 - 35)) 3) = j_ := ⟨_, rfl⟩
              replace H : (if 0 ≤ (ji13) then (if (ji13) < (y133.length : Int) then (some (rd y133 (ji13))) else (none)) else (none)) = some r := by first | (rw [hji13] at H; exact H) | (simp only [hji13] at H ⊢; exact H)
              by_cases c14 : 0 ≤ (ji13)
              · rw [if_pos c14] at H
                have c14b0 : decide (0 ≤ (ji13)) = true := decide_eq_true c14
                clear c14
                by_cases c15 : (ji13) < (y133.length : Int)
                · rw [if_pos c15] at H
                  have c15b0 : decide ((ji13) < (y133.length : Int)) = true := decide_eq_true c15
                  clear c15
                  obtain rfl := Option.some.inj H
                  go_wp2_with (first | ((with_reducible refine gate_dst (N := 28) rfl ?_); refine Kd.R_lit (Kd.int .i64) _ 3 ?hg (N := 28) ?hd (xs := ([16, 32, 64] : List Int)) (inner := [.int .i64 16, .int .i64 32, .int .i64 64]) (ok := fun _ => True) (okp := fun _ => True) ?hr ?hp (fun _ hk => hk) trivial (Below.refl _ _) (Nat.le_refl _) (by simp) ?_; (case hd => rfl); (case hg => rfl); (case hr => first | (go_simp; done) | (go_simp; rfl)); (case hp => exact (Reps.one (show Kd.M (Kd.int .i64) _ _ _ 16 [.int .i64 16] from rfl) (Reps.one (show Kd.M (Kd.int .i64) _ _ _ 32 [.int .i64 32] from rfl) (Reps.one (show Kd.M (Kd.int .i64) _ _ _ 64 [.int .i64 64] from rfl) (Reps.none _ _))))); intro v134 w16 ho17 hb hg_ hnew_; clear hg_ hnew_; (first | rw [← Ny133.out] at ho17 | (simp only [Int.reduceToNat] at ho17; rw [← Ny133.out] at ho17)); have n0_ := Aside0.mk (Kd.R_elder' (by (with_reducible repeat (first | apply Kd.R_alloc | apply Kd.R_drewN | apply Kd.R_drew)); exact HO_3.out) (Kd.R_base ho17) hb); have n1_ := Aside0.mk (Kd.R_lower (Kd.R_new' ho17 (Kd.R_lt (by (with_reducible repeat (first | apply Kd.R_alloc | apply Kd.R_drewN | apply Kd.R_drew)); exact HO_3.out))) (below_size (by repeat (first | (with_reducible first | exact HB.out | apply below_alloc | apply pw_below_drewN | apply below_drew1) | exact HB.out)))); have n2_ := Aside0.mk (below_step (by repeat (first | (with_reducible first | exact HB.out | apply below_alloc | apply pw_below_drewN | apply below_drew1) | exact HB.out)) hb); clear HO_3; clear HB; have HO_3 := n0_; have HO135 := n1_; have HB := n2_; clear n0_ n1_ n2_; clear hb ho17; obtain ⟨Ao18, co18, eo18⟩ := Kd.R_slice HO135.out; subst eo18; have p136 : 0 ≤ ((ji13) : Int) := of_decide_eq_true (by first | (with_reducible assumption) | assumption); have q136 : (ji13) < (y133.length : Int) := of_decide_eq_true (by first | (with_reducible assumption) | assumption); obtain ⟨ad136, e136, hx136_0⟩ := Kd.at_int (Kd.R_reads' HO135.out).2.2 (ji13) p136 q136; cases e136; replace p136 := eq_true p136; replace q136 := eq_true q136))
                  go_ret
                  exact ⟨by first | rfl | (simp [errW_none, errW_some] <;> rfl) | (simp only [← hji13]; first | rfl | (simp [errW_none, errW_some] <;> rfl)) | (simp [*, errW_none, errW_some] <;> rfl), by repeat (first | (with_reducible first | exact HB.out | apply below_alloc | apply pw_below_drewN | apply below_drew1) | exact HB.out)⟩
                · rw [if_neg c15] at H
                  exact absurd H (by simp)
              · rw [if_neg c14] at H
                exact absurd H (by simp)
            · replace c12 := Bool.eq_false_iff.mpr c12
              subst c12
              have H1 : (if a0 ≥ 69 then (slotcoderef03_Bits.j2 kj9 a0 y129 (decide (a0 ≤ 75))) else (slotcoderef03_Bits.j2 kj9 a0 y129 false)) = some r := by rw [if_neg (show ¬ (false = true) by decide)] at H; exact H
              clear H
              have H := H1
              clear H1
              have HC19 := Aside0.mk H
              clear H
              go_upto_region 6 with (fail)
              go_cut [34] (fun v34 wc => ∃ (kq : Nat) (x34_18 : Bool), v34 = .bool x34_18 ∧ Aside0 (slotcoderef03_Bits.j2 kq a0 y129 x34_18 = some r) ∧ Aside0 (kq ≤ kj9) ∧ Aside0 (Kd.R (Kd.int .i64) 3 wc w.heap.size (fun _ => True) v130 y129) ∧ Aside0 (Below w.heap.size w wc))
              case first =>
                have H := HC19.out
                clear HC19
                by_cases c20 : a0 ≥ 69
                · rw [if_pos c20] at H
                  have c20b0 : decide (69 ≤ a0) = true := decide_eq_true c20
                  clear c20
                  (first | rw [c20b0] | (simp only [i64_w, i32_w]; rw [c20b0]) | skip)
                  have H' := Aside0.mk H
                  clear H
                  go_wp2
                  go_meet
                  case rel => exact ⟨_, (decide (a0 ≤ 75)), (by first | rfl | (simp; done) | (simp [*]; done)), H', ⟨by have := HJ1.out; have := HJ9.out; first | omega | exact Nat.le_refl _⟩, ⟨by (with_reducible repeat (first | apply Kd.R_alloc | apply Kd.R_drewN | apply Kd.R_drew)); exact HO_3.out⟩, ⟨by repeat (first | (with_reducible first | exact HB.out | apply below_alloc | apply pw_below_drewN | apply below_drew1) | exact HB.out)⟩⟩
                · rw [if_neg c20] at H
                  have c20b0 : decide (69 ≤ a0) = false := decide_eq_false c20
                  clear c20
                  (first | rw [c20b0] | (simp only [i64_w, i32_w]; rw [c20b0]) | skip)
                  have H' := Aside0.mk H
                  clear H
                  go_wp2
                  go_meet
                  case rel => exact ⟨_, (false), (by first | rfl | (simp; done) | (simp [*]; done)), H', ⟨by have := HJ1.out; have := HJ9.out; first | omega | exact Nat.le_refl _⟩, ⟨by (with_reducible repeat (first | apply Kd.R_alloc | apply Kd.R_drewN | apply Kd.R_drew)); exact HO_3.out⟩, ⟨by repeat (first | (with_reducible first | exact HB.out | apply below_alloc | apply pw_below_drewN | apply below_drew1) | exact HB.out)⟩⟩
              case rest =>
                clear HC19
                try clear c1
                try clear p1
                try clear q1
                try clear hx1
                try clear c2
                try clear p2
                try clear c4
                try clear c6
                try clear p6
                try clear c7
                try clear c7b0
                try clear c7b1
                try clear c8
                try clear c8b0
                try clear c8b1
                try clear c9
                try clear c11
                try clear c11b0
                try clear c12
                try clear p13
                try clear q13
                try clear hx13
                try clear c14
                try clear c14b0
                try clear c15
                try clear c15b0
                try clear c20
                try clear c20b0
                try clear hx136_0
                try clear p136
                try clear p2
                try clear q136
                obtain ⟨kq, x34_18, rfl, HA, HJ18, HO_3, HB⟩ := hcut
                cases kq with
                | zero => exact absurd HA.out (by simp [slotcoderef03_Bits.j2])
                | succ kj18 =>
                  have H := HA.out
                  clear HA
                  simp only [slotcoderef03_Bits.j2] at H
                  by_cases c21 : x34_18 = true
                  · subst c21
                    have H1 : (if 0 ≤ (wrap64 (a0 - 69)) then (if (wrap64 (a0 - 69)) < (y129.length : Int) then (some (rd y129 (wrap64 (a0 - 69)))) else (none)) else (none)) = some r := by rw [if_pos rfl] at H; exact H
                    clear H
                    have H := H1
                    clear H1
                    obtain ⟨ji22, hji22⟩ : ∃ j_ : Int, (wrap64 (a0 - 69)) = j_ := ⟨_, rfl⟩
                    replace H : (if 0 ≤ (ji22) then (if (ji22) < (y129.length : Int) then (some (rd y129 (ji22))) else (none)) else (none)) = some r := by first | (rw [hji22] at H; exact H) | (simp only [hji22] at H ⊢; exact H)
                    have hji22w : (IntKind.i64.wrap (a0 - 69)) = ji22 := (i64_w _).trans hji22
                    by_cases c23 : 0 ≤ (ji22)
                    · rw [if_pos c23] at H
                      have c23b0 : decide (0 ≤ (ji22)) = true := decide_eq_true c23
                      clear c23
                      by_cases c24 : (ji22) < (y129.length : Int)
                      · rw [if_pos c24] at H
                        have c24b0 : decide ((ji22) < (y129.length : Int)) = true := decide_eq_true c24
                        clear c24
                        obtain rfl := Option.some.inj H
                        obtain ⟨Ao25, co25, eo25⟩ := Kd.R_slice HO_3.out
                        subst eo25
                        have p137 : 0 ≤ ((ji22) : Int) := of_decide_eq_true (by first | (with_reducible assumption) | assumption)
                        have q137 : (ji22) < (y129.length : Int) := of_decide_eq_true (by first | (with_reducible assumption) | assumption)
                        obtain ⟨ad137, e137, hx137_0⟩ := Kd.at_int (Kd.R_reads' HO_3.out).2.2 (ji22) p137 q137
                        cases e137
                        replace p137 := eq_true p137
                        replace q137 := eq_true q137
                        go_wp2
                        go_ret
                        exact ⟨by first | rfl | (simp [errW_none, errW_some] <;> rfl) | (simp only [← hji22]; first | rfl | (simp [errW_none, errW_some] <;> rfl)) | (simp [*, errW_none, errW_some] <;> rfl), by repeat (first | (with_reducible first | exact HB.out | apply below_alloc | apply pw_below_drewN | apply below_drew1) | exact HB.out)⟩
                      · rw [if_neg c24] at H
                        exact absurd H (by simp)
                    · rw [if_neg c23] at H
                      exact absurd H (by simp)
                  · replace c21 := Bool.eq_false_iff.mpr c21
                    subst c21
                    have H1 : (if a0 ≥ 76 then (slotcoderef03_Bits.j3 kj18 a0 y129 (decide (a0 ≤ 83))) else (slotcoderef03_Bits.j3 kj18 a0 y129 false)) = some r := by rw [if_neg (show ¬ (false = true) by decide)] at H; exact H
                    clear H
                    have H := H1
                    clear H1
                    have HC26 := Aside0.mk H
                    clear H
                    go_upto_region 8 with (fail)
                    go_cut [46] (fun v46 wc => ∃ (kq : Nat) (x46_25 : Bool), v46 = .bool x46_25 ∧ Aside0 (slotcoderef03_Bits.j3 kq a0 y129 x46_25 = some r) ∧ Aside0 (kq ≤ kj18) ∧ Aside0 (Kd.R (Kd.int .i64) 3 wc w.heap.size (fun _ => True) v130 y129) ∧ Aside0 (Below w.heap.size w wc))
                    case first =>
                      have H := HC26.out
                      clear HC26
                      by_cases c27 : a0 ≥ 76
                      · rw [if_pos c27] at H
                        have c27b0 : decide (76 ≤ a0) = true := decide_eq_true c27
                        clear c27
                        (first | rw [c27b0] | (simp only [i64_w, i32_w]; rw [c27b0]) | skip)
                        have H' := Aside0.mk H
                        clear H
                        go_wp2
                        go_meet
                        case rel => exact ⟨_, (decide (a0 ≤ 83)), (by first | rfl | (simp; done) | (simp [*]; done)), H', ⟨by have := HJ1.out; have := HJ9.out; have := HJ18.out; first | omega | exact Nat.le_refl _⟩, ⟨by (with_reducible repeat (first | apply Kd.R_alloc | apply Kd.R_drewN | apply Kd.R_drew)); exact HO_3.out⟩, ⟨by repeat (first | (with_reducible first | exact HB.out | apply below_alloc | apply pw_below_drewN | apply below_drew1) | exact HB.out)⟩⟩
                      · rw [if_neg c27] at H
                        have c27b0 : decide (76 ≤ a0) = false := decide_eq_false c27
                        clear c27
                        (first | rw [c27b0] | (simp only [i64_w, i32_w]; rw [c27b0]) | skip)
                        have H' := Aside0.mk H
                        clear H
                        go_wp2
                        go_meet
                        case rel => exact ⟨_, (false), (by first | rfl | (simp; done) | (simp [*]; done)), H', ⟨by have := HJ1.out; have := HJ9.out; have := HJ18.out; first | omega | exact Nat.le_refl _⟩, ⟨by (with_reducible repeat (first | apply Kd.R_alloc | apply Kd.R_drewN | apply Kd.R_drew)); exact HO_3.out⟩, ⟨by repeat (first | (with_reducible first | exact HB.out | apply below_alloc | apply pw_below_drewN | apply below_drew1) | exact HB.out)⟩⟩
                    case rest =>
                      clear HC26
                      try clear c1
                      try clear p1
                      try clear q1
                      try clear hx1
                      try clear c2
                      try clear p2
                      try clear c4
                      try clear c6
                      try clear p6
                      try clear c7
                      try clear c7b0
                      try clear c7b1
                      try clear c8
                      try clear c8b0
                      try clear c8b1
                      try clear c9
                      try clear c11
                      try clear c11b0
                      try clear c12
                      try clear p13
                      try clear q13
                      try clear hx13
                      try clear c14
                      try clear c14b0
                      try clear c15
                      try clear c15b0
                      try clear c20
                      try clear c20b0
                      try clear c21
                      try clear c23
                      try clear c23b0
                      try clear c24
                      try clear c24b0
                      try clear c27
                      try clear c27b0
                      try clear hx136_0
                      try clear hx137_0
                      try clear p1
                      try clear p13
                      try clear p136
                      try clear p137
                      try clear p2
                      try clear p6
                      try clear q1
                      try clear q13
                      try clear q136
                      try clear q137
                      obtain ⟨kq, x46_25, rfl, HA, HJ25, HO_3, HB⟩ := hcut
                      cases kq with
                      | zero => exact absurd HA.out (by simp [slotcoderef03_Bits.j3])
                      | succ kj25 =>
                        have H := HA.out
                        clear HA
                        simp only [slotcoderef03_Bits.j3] at H
                        by_cases c28 : x46_25 = true
                        · subst c28
                          have H1 : (if 0 ≤ (Int.tmod (wrap64 (a0 - 76)) 4) then (if (Int.tmod (wrap64 (a0 - 76)) 4) < (y129.length : Int) then (some (rd y129 (Int.tmod (wrap64 (a0 - 76)) 4))) else (none)) else (none)) = some r := by rw [if_pos rfl] at H; exact H
                          clear H
                          have H := H1
                          clear H1
                          obtain ⟨ji29, hji29⟩ : ∃ j_ : Int, (Int.tmod (wrap64 (a0 - 76)) 4) = j_ := ⟨_, rfl⟩
                          replace H : (if 0 ≤ (ji29) then (if (ji29) < (y129.length : Int) then (some (rd y129 (ji29))) else (none)) else (none)) = some r := by first | (rw [hji29] at H; exact H) | (simp only [hji29] at H ⊢; exact H)
                          by_cases c30 : 0 ≤ (ji29)
                          · rw [if_pos c30] at H
                            have c30b0 : decide (0 ≤ (ji29)) = true := decide_eq_true c30
                            clear c30
                            by_cases c31 : (ji29) < (y129.length : Int)
                            · rw [if_pos c31] at H
                              have c31b0 : decide ((ji29) < (y129.length : Int)) = true := decide_eq_true c31
                              clear c31
                              obtain rfl := Option.some.inj H
                              obtain ⟨Ao32, co32, eo32⟩ := Kd.R_slice HO_3.out
                              subst eo32
                              have p138 : 0 ≤ ((ji29) : Int) := of_decide_eq_true (by first | (with_reducible assumption) | assumption)
                              have q138 : (ji29) < (y129.length : Int) := of_decide_eq_true (by first | (with_reducible assumption) | assumption)
                              obtain ⟨ad138, e138, hx138_0⟩ := Kd.at_int (Kd.R_reads' HO_3.out).2.2 (ji29) p138 q138
                              cases e138
                              replace p138 := eq_true p138
                              replace q138 := eq_true q138
                              go_wp2
                              go_ret
                              exact ⟨by first | rfl | (simp [errW_none, errW_some] <;> rfl) | (simp only [← hji29]; first | rfl | (simp [errW_none, errW_some] <;> rfl)) | (simp [*, errW_none, errW_some] <;> rfl), by repeat (first | (with_reducible first | exact HB.out | apply below_alloc | apply pw_below_drewN | apply below_drew1) | exact HB.out)⟩
                            · rw [if_neg c31] at H
                              exact absurd H (by simp)
                          · rw [if_neg c30] at H
                            exact absurd H (by simp)
                        · replace c28 := Bool.eq_false_iff.mpr c28
                          subst c28
                          have H1 : (if a0 ≥ 14 then (if a0 ≤ 27 then (some 32) else (if a0 = 29 then (some 32) else (if a0 = 33 then (some 32) else (if a0 = 34 then (some 32) else (if a0 ≥ 56 then (if a0 ≤ 66 then (some 32) else (some 64)) else (some 64)))))) else (if a0 = 29 then (some 32) else (if a0 = 33 then (some 32) else (if a0 = 34 then (some 32) else (if a0 ≥ 56 then (if a0 ≤ 66 then (some 32) else (some 64)) else (some 64)))))) = some r := by rw [if_neg (show ¬ (false = true) by decide)] at H; exact H
                          clear H
                          have H := H1
                          clear H1
                          by_cases c33 : a0 ≥ 14
                          · rw [if_pos c33] at H
                            have c33b0 : decide (14 ≤ a0) = true := decide_eq_true c33
                            clear c33
                            by_cases c34 : a0 ≤ 27
                            · rw [if_pos c34] at H
                              have c34b0 : decide (a0 ≤ 27) = true := decide_eq_true c34
                              clear c34
                              obtain rfl := Option.some.inj H
                              go_wp2
                              go_ret
                              exact ⟨by first | rfl | (simp [errW_none, errW_some] <;> rfl) | (simp [*, errW_none, errW_some] <;> rfl), by repeat (first | (with_reducible first | exact HB.out | apply below_alloc | apply pw_below_drewN | apply below_drew1) | exact HB.out)⟩
                            · rw [if_neg c34] at H
                              have c34b0 : decide (a0 ≤ 27) = false := decide_eq_false c34
                              clear c34
                              by_cases c35 : a0 = 29
                              · rw [if_pos c35] at H
                                have c35b0 : (a0 == 29) = true := beq_iff_eq.mpr c35
                                have c35b1 : (a0 != 29) = false := bne_eq_false_iff_eq.mpr c35
                                clear c35
                                obtain rfl := Option.some.inj H
                                go_wp2
                                go_ret
                                exact ⟨by first | rfl | (simp [errW_none, errW_some] <;> rfl) | (simp [*, errW_none, errW_some] <;> rfl), by repeat (first | (with_reducible first | exact HB.out | apply below_alloc | apply pw_below_drewN | apply below_drew1) | exact HB.out)⟩
                              · rw [if_neg c35] at H
                                have c35b0 : (a0 == 29) = false := beq_eq_false_iff_ne.mpr c35
                                have c35b1 : (a0 != 29) = true := bne_iff_ne.mpr c35
                                by_cases c36 : a0 = 33
                                · rw [if_pos c36] at H
                                  have c36b0 : (a0 == 33) = true := beq_iff_eq.mpr c36
                                  have c36b1 : (a0 != 33) = false := bne_eq_false_iff_eq.mpr c36
                                  clear c36
                                  obtain rfl := Option.some.inj H
                                  go_wp2
                                  go_ret
                                  exact ⟨by first | rfl | (simp [errW_none, errW_some] <;> rfl) | (simp [*, errW_none, errW_some] <;> rfl), by repeat (first | (with_reducible first | exact HB.out | apply below_alloc | apply pw_below_drewN | apply below_drew1) | exact HB.out)⟩
                                · rw [if_neg c36] at H
                                  have c36b0 : (a0 == 33) = false := beq_eq_false_iff_ne.mpr c36
                                  have c36b1 : (a0 != 33) = true := bne_iff_ne.mpr c36
                                  by_cases c37 : a0 = 34
                                  · rw [if_pos c37] at H
                                    have c37b0 : (a0 == 34) = true := beq_iff_eq.mpr c37
                                    have c37b1 : (a0 != 34) = false := bne_eq_false_iff_eq.mpr c37
                                    clear c37
                                    obtain rfl := Option.some.inj H
                                    go_wp2
                                    go_ret
                                    exact ⟨by first | rfl | (simp [errW_none, errW_some] <;> rfl) | (simp [*, errW_none, errW_some] <;> rfl), by repeat (first | (with_reducible first | exact HB.out | apply below_alloc | apply pw_below_drewN | apply below_drew1) | exact HB.out)⟩
                                  · rw [if_neg c37] at H
                                    have c37b0 : (a0 == 34) = false := beq_eq_false_iff_ne.mpr c37
                                    have c37b1 : (a0 != 34) = true := bne_iff_ne.mpr c37
                                    by_cases c38 : a0 ≥ 56
                                    · rw [if_pos c38] at H
                                      have c38b0 : decide (56 ≤ a0) = true := decide_eq_true c38
                                      clear c38
                                      by_cases c39 : a0 ≤ 66
                                      · rw [if_pos c39] at H
                                        have c39b0 : decide (a0 ≤ 66) = true := decide_eq_true c39
                                        clear c39
                                        obtain rfl := Option.some.inj H
                                        go_wp2
                                        go_ret
                                        exact ⟨by first | rfl | (simp [errW_none, errW_some] <;> rfl) | (simp [*, errW_none, errW_some] <;> rfl), by repeat (first | (with_reducible first | exact HB.out | apply below_alloc | apply pw_below_drewN | apply below_drew1) | exact HB.out)⟩
                                      · rw [if_neg c39] at H
                                        have c39b0 : decide (a0 ≤ 66) = false := decide_eq_false c39
                                        clear c39
                                        obtain rfl := Option.some.inj H
                                        go_wp2
                                        go_ret
                                        exact ⟨by first | rfl | (simp [errW_none, errW_some] <;> rfl) | (simp [*, errW_none, errW_some] <;> rfl), by repeat (first | (with_reducible first | exact HB.out | apply below_alloc | apply pw_below_drewN | apply below_drew1) | exact HB.out)⟩
                                    · rw [if_neg c38] at H
                                      have c38b0 : decide (56 ≤ a0) = false := decide_eq_false c38
                                      clear c38
                                      obtain rfl := Option.some.inj H
                                      go_wp2
                                      go_ret
                                      exact ⟨by first | rfl | (simp [errW_none, errW_some] <;> rfl) | (simp [*, errW_none, errW_some] <;> rfl), by repeat (first | (with_reducible first | exact HB.out | apply below_alloc | apply pw_below_drewN | apply below_drew1) | exact HB.out)⟩
                          · rw [if_neg c33] at H
                            have c33b0 : decide (14 ≤ a0) = false := decide_eq_false c33
                            clear c33
                            by_cases c40 : a0 = 29
                            · rw [if_pos c40] at H
                              have c40b0 : (a0 == 29) = true := beq_iff_eq.mpr c40
                              have c40b1 : (a0 != 29) = false := bne_eq_false_iff_eq.mpr c40
                              clear c40
                              obtain rfl := Option.some.inj H
                              go_wp2
                              go_ret
                              exact ⟨by first | rfl | (simp [errW_none, errW_some] <;> rfl) | (simp [*, errW_none, errW_some] <;> rfl), by repeat (first | (with_reducible first | exact HB.out | apply below_alloc | apply pw_below_drewN | apply below_drew1) | exact HB.out)⟩
                            · rw [if_neg c40] at H
                              have c40b0 : (a0 == 29) = false := beq_eq_false_iff_ne.mpr c40
                              have c40b1 : (a0 != 29) = true := bne_iff_ne.mpr c40
                              by_cases c41 : a0 = 33
                              · rw [if_pos c41] at H
                                have c41b0 : (a0 == 33) = true := beq_iff_eq.mpr c41
                                have c41b1 : (a0 != 33) = false := bne_eq_false_iff_eq.mpr c41
                                clear c41
                                obtain rfl := Option.some.inj H
                                go_wp2
                                go_ret
                                exact ⟨by first | rfl | (simp [errW_none, errW_some] <;> rfl) | (simp [*, errW_none, errW_some] <;> rfl), by repeat (first | (with_reducible first | exact HB.out | apply below_alloc | apply pw_below_drewN | apply below_drew1) | exact HB.out)⟩
                              · rw [if_neg c41] at H
                                have c41b0 : (a0 == 33) = false := beq_eq_false_iff_ne.mpr c41
                                have c41b1 : (a0 != 33) = true := bne_iff_ne.mpr c41
                                by_cases c42 : a0 = 34
                                · rw [if_pos c42] at H
                                  have c42b0 : (a0 == 34) = true := beq_iff_eq.mpr c42
                                  have c42b1 : (a0 != 34) = false := bne_eq_false_iff_eq.mpr c42
                                  clear c42
                                  obtain rfl := Option.some.inj H
                                  go_wp2
                                  go_ret
                                  exact ⟨by first | rfl | (simp [errW_none, errW_some] <;> rfl) | (simp [*, errW_none, errW_some] <;> rfl), by repeat (first | (with_reducible first | exact HB.out | apply below_alloc | apply pw_below_drewN | apply below_drew1) | exact HB.out)⟩
                                · rw [if_neg c42] at H
                                  have c42b0 : (a0 == 34) = false := beq_eq_false_iff_ne.mpr c42
                                  have c42b1 : (a0 != 34) = true := bne_iff_ne.mpr c42
                                  by_cases c43 : a0 ≥ 56
                                  · rw [if_pos c43] at H
                                    have c43b0 : decide (56 ≤ a0) = true := decide_eq_true c43
                                    clear c43
                                    by_cases c44 : a0 ≤ 66
                                    · rw [if_pos c44] at H
                                      have c44b0 : decide (a0 ≤ 66) = true := decide_eq_true c44
                                      clear c44
                                      obtain rfl := Option.some.inj H
                                      go_wp2
                                      go_ret
                                      exact ⟨by first | rfl | (simp [errW_none, errW_some] <;> rfl) | (simp [*, errW_none, errW_some] <;> rfl), by repeat (first | (with_reducible first | exact HB.out | apply below_alloc | apply pw_below_drewN | apply below_drew1) | exact HB.out)⟩
                                    · rw [if_neg c44] at H
                                      have c44b0 : decide (a0 ≤ 66) = false := decide_eq_false c44
                                      clear c44
                                      obtain rfl := Option.some.inj H
                                      go_wp2
                                      go_ret
                                      exact ⟨by first | rfl | (simp [errW_none, errW_some] <;> rfl) | (simp [*, errW_none, errW_some] <;> rfl), by repeat (first | (with_reducible first | exact HB.out | apply below_alloc | apply pw_below_drewN | apply below_drew1) | exact HB.out)⟩
                                  · rw [if_neg c43] at H
                                    have c43b0 : decide (56 ≤ a0) = false := decide_eq_false c43
                                    clear c43
                                    obtain rfl := Option.some.inj H
                                    go_wp2
                                    go_ret
                                    exact ⟨by first | rfl | (simp [errW_none, errW_some] <;> rfl) | (simp [*, errW_none, errW_some] <;> rfl), by repeat (first | (with_reducible first | exact HB.out | apply below_alloc | apply pw_below_drewN | apply below_drew1) | exact HB.out)⟩

end Go.Proofs.YtgdfeehpbccbnaaDoor.Q
