-- PRINTED by print.py (a twelfth state) out of the translation. Not trusted: Lean checks it.
import Derived.Test.YtgdfeehpbccbnaaDoorQx0
namespace Go.Proofs.YtgdfeehpbccbnaaDoor.Q
open Go.RowKit Go.Proofs.YtgdfeehpbccbnaaDoorW.PrintWords Go.Proofs.YtgdfeehpbccbnaaDoorW.PrintLast Go.Proofs.YtgdfeehpbccbnaaDoorW.PrintMore
attribute [local go_sem] max2_int min2_int max_two min_two max_three min_three max_four min_four   -- for this text's walks alone
set_option linter.unusedVariables false
set_option linter.unusedSimpArgs false

-- NOT PRINTED: function 52 (ops_table)

-- NOT PRINTED: function 47 (ops_get)

-- GIVEN: function 16 (ops_Name)

-- GIVEN: function 18 (ops_Form)

-- GIVEN: function 20 (ops_Bits)

-- NOT PRINTED: function 50 (ops_names)

-- GIVEN: function 22 (ops_Find)

-- GIVEN: function 23 (ops_Code)

/-! ### ops_op_matches: function 53 -/
def ops_op_matches.j0 : Nat → Int → Int → Int → Bool → ByteArray → Int → Int → Int → Int → Int → Int → Option (Bool)
  | 0, _, _, _, _, _, _, _, _, _, _, _ => none
  | k + 1, x1, x2, x3, x9, x103000, x103001, x103002, x103003, x103004, x103005, x103006 => if x9 = true then (some (x103005 == x2)) else (if x103006 = 0 then (if x103001 = 10 then (some (x103004 == x1)) else (if x103001 = 11 then (some (x103004 == x1)) else (some true))) else (some (x103006 == x3)))
def ops_op_matches.f (k : Nat) (a0_0 : ByteArray) (a0_1 : Int) (a0_2 : Int) (a0_3 : Int) (a0_4 : Int) (a0_5 : Int) (a0_6 : Int) (a1 : Int) (a2 : Int) (a3 : Int) : Option (Bool) := if a0_1 = 0 then (ops_op_matches.j0 k a1 a2 a3 true a0_0 a0_1 a0_2 a0_3 a0_4 a0_5 a0_6) else (ops_op_matches.j0 k a1 a2 a3 (a0_1 == 2) a0_0 a0_1 a0_2 a0_3 a0_4 a0_5 a0_6)
theorem ops_op_matches.mono_l : ∀ k, (∀ y0 y1 y2 y3 y4 y5 y6 y7 y8 y9 y10, LeO (ops_op_matches.j0 k y0 y1 y2 y3 y4 y5 y6 y7 y8 y9 y10) (ops_op_matches.j0 (k + 1) y0 y1 y2 y3 y4 y5 y6 y7 y8 y9 y10))
  | 0 => fun _ _ _ _ _ _ _ _ _ _ _ r h => by simp [ops_op_matches.j0] at h
  | k + 1 => by
    have ih0 := ops_op_matches.mono_l k
    · intro y0 y1 y2 y3 y4 y5 y6 y7 y8 y9 y10
      unfold ops_op_matches.j0
      repeat' first
      | (with_reducible exact ih0 _ _ _ _ _ _ _ _ _ _ _)
      | (with_reducible exact LeO.refl _)
      | (with_reducible exact LeO.none _)
      | (with_reducible refine LeO.ite ?_ ?_)
      | (with_reducible refine LeO.bind ?_ (fun _ => ?_))
      | exact ih0 _ _ _ _ _ _ _ _ _ _ _
      | exact LeO.none _
      | refine LeO.ite ?_ ?_
      | refine LeO.bind ?_ (fun _ => ?_)
theorem ops_op_matches.mono : ∀ a0 a1 a2 a3 a4 a5 a6 a7 a8 a9 k, LeO (ops_op_matches.f k a0 a1 a2 a3 a4 a5 a6 a7 a8 a9) (ops_op_matches.f (k + 1) a0 a1 a2 a3 a4 a5 a6 a7 a8 a9) := by
  intro a0 a1 a2 a3 a4 a5 a6 a7 a8 a9 k
  have ih0 := ops_op_matches.mono_l k
  unfold ops_op_matches.f
  repeat' first
      | (with_reducible exact ih0 _ _ _ _ _ _ _ _ _ _ _)
      | (with_reducible exact LeO.refl _)
      | (with_reducible exact LeO.none _)
      | (with_reducible refine LeO.ite ?_ ?_)
      | (with_reducible refine LeO.bind ?_ (fun _ => ?_))
      | exact ih0 _ _ _ _ _ _ _ _ _ _ _
      | exact LeO.none _
      | refine LeO.ite ?_ ?_
      | refine LeO.bind ?_ (fun _ => ?_)
set_option maxHeartbeats 8000000 in
set_option maxRecDepth 100000 in
theorem ops_op_matches.calls (k : Nat) (a0_0 : ByteArray) (a0_1 : Int) (a0_2 : Int) (a0_3 : Int) (a0_4 : Int) (a0_5 : Int) (a0_6 : Int) (a1 : Int) (a2 : Int) (a3 : Int) (r : Bool) (w : World) (h : ops_op_matches.f k a0_0 a0_1 a0_2 a0_3 a0_4 a0_5 a0_6 a1 a2 a3 = some r) :
    Calls Tryd.prog 53 #[.agg #[.string a0_0, .int .i64 a0_1, .int .i64 a0_2, .int .u8 a0_3, .int .i64 a0_4, .int .i64 a0_5, .int .i64 a0_6], .int .i64 a1, .int .i64 a2, .int .i64 a3] w fun e w' => e = .returned (.bool r) ∧ Below w.heap.size w w' := by
  have hu64 := Tryd.underlying64
  have HB := Aside0.mk (Below.refl w.heap.size w)
  have H : (if a0_1 = 0 then (ops_op_matches.j0 k a1 a2 a3 true a0_0 a0_1 a0_2 a0_3 a0_4 a0_5 a0_6) else (ops_op_matches.j0 k a1 a2 a3 (a0_1 == 2) a0_0 a0_1 a0_2 a0_3 a0_4 a0_5 a0_6)) = some r := h
  clear h
  have HC5 := Aside0.mk H
  clear H
  go_enter Tryd.func53, Tryd.ntmps53
  go_upto_region 1 with (first | ((with_reducible refine gate_dst (N := 4) rfl ?_); refine box_event ?hg (N := 4) ?hd (cs := #[.string a0_0, .int .i64 a0_1, .int .i64 a0_2, .int .u8 a0_3, .int .i64 a0_4, .int .i64 a0_5, .int .i64 a0_6]) (t := 64) ?hr ?_; (case hd => rfl); (case hg => rfl); (case hr => first | (go_simp; done) | (go_simp; rfl)); intro gb102 hg w6 hbox hb; have n0_ := Aside0.mk (below_step (by repeat (first | (with_reducible first | exact HB.out | apply below_alloc | apply pw_below_drewN | apply below_drew1) | exact HB.out)) hb); have n1_ := Aside0.mk (hbox); have n2_ := Aside0.mk ((by rw [hg]; exact (below_size (by repeat (first | (with_reducible first | exact HB.out | apply below_alloc | apply pw_below_drewN | apply below_drew1) | exact HB.out))) : w.heap.size ≤ gb102)); have n3_ := Aside0.mk ((by rw [hg]; exact (below_size (by repeat (first | (with_reducible first | exact HB.out | apply below_alloc | apply pw_below_drewN | apply below_drew1) | exact HB.out))) : w.heap.size ≤ gb102)); clear HB; have HB := n0_; have BK102 := n1_; have GW102 := n2_; have GE102 := n3_; clear n0_ n1_ n2_ n3_; clear hb hbox hg))
  (try simp only [Act.put, List.setIfInBounds_toArray, List.set_cons_zero, List.set_cons_succ])
  go_cut [9] (fun v9 wc => ∃ (kq : Nat) (x9_4 : Bool), v9 = .bool x9_4 ∧ Aside0 (ops_op_matches.j0 kq a1 a2 a3 x9_4 a0_0 a0_1 a0_2 a0_3 a0_4 a0_5 a0_6 = some r) ∧ Aside0 (kq ≤ k) ∧ Aside0 (wc.heap[gb102]? = some (.cells #[.string a0_0, .int .i64 a0_1, .int .i64 a0_2, .int .u8 a0_3, .int .i64 a0_4, .int .i64 a0_5, .int .i64 a0_6] 64 (0, 0))) ∧ Aside0 (Below w.heap.size w wc))
  case first =>
    have H := HC5.out
    clear HC5
    by_cases c7 : a0_1 = 0
    · rw [if_pos c7] at H
      have c7b0 : (a0_1 == 0) = true := beq_iff_eq.mpr c7
      have c7b1 : (a0_1 != 0) = false := bne_eq_false_iff_eq.mpr c7
      clear c7
      (first | rw [c7b0] | (simp only [i64_w, i32_w]; rw [c7b0]) | skip)
      have H' := Aside0.mk H
      clear H
      have hcz8_0 : w6.cell? ⟨gb102, 0, none⟩ = some (.string a0_0) := (blk_cell BK102.out 0).trans rfl
      have hcz8_1 : w6.cell? ⟨gb102, 1, none⟩ = some (.int .i64 a0_1) := (blk_cell BK102.out 1).trans rfl
      have hcz8_2 : w6.cell? ⟨gb102, 2, none⟩ = some (.int .i64 a0_2) := (blk_cell BK102.out 2).trans rfl
      have hcz8_3 : w6.cell? ⟨gb102, 3, none⟩ = some (.int .u8 a0_3) := (blk_cell BK102.out 3).trans rfl
      have hcz8_4 : w6.cell? ⟨gb102, 4, none⟩ = some (.int .i64 a0_4) := (blk_cell BK102.out 4).trans rfl
      have hcz8_5 : w6.cell? ⟨gb102, 5, none⟩ = some (.int .i64 a0_5) := (blk_cell BK102.out 5).trans rfl
      have hcz8_6 : w6.cell? ⟨gb102, 6, none⟩ = some (.int .i64 a0_6) := (blk_cell BK102.out 6).trans rfl
      have hfz8_0 := blk_frozen BK102.out 0
      have hfz8_1 := blk_frozen BK102.out 1
      have hfz8_2 := blk_frozen BK102.out 2
      have hfz8_3 := blk_frozen BK102.out 3
      have hfz8_4 := blk_frozen BK102.out 4
      have hfz8_5 := blk_frozen BK102.out 5
      have hfz8_6 := blk_frozen BK102.out 6
      go_wp2
      go_meet
      case rel => exact ⟨_, (true), (by first | rfl | (simp; done) | (simp [*]; done)), H', ⟨by first | omega | exact Nat.le_refl _⟩, ⟨by (with_reducible repeat (first | refine blk_drewN ?_ _ | refine blk_drew ?_ | refine blk_alloc ?_ _)); exact BK102.out⟩, ⟨by repeat (first | (with_reducible first | exact HB.out | apply below_alloc | apply pw_below_drewN | apply below_drew1 | refine below_set ?_ GE102.out) | exact HB.out)⟩⟩
    · rw [if_neg c7] at H
      have c7b0 : (a0_1 == 0) = false := beq_eq_false_iff_ne.mpr c7
      have c7b1 : (a0_1 != 0) = true := bne_iff_ne.mpr c7
      (first | rw [c7b0] | (simp only [i64_w, i32_w]; rw [c7b0]) | skip)
      have H' := Aside0.mk H
      clear H
      have hcz9_0 : w6.cell? ⟨gb102, 0, none⟩ = some (.string a0_0) := (blk_cell BK102.out 0).trans rfl
      have hcz9_1 : w6.cell? ⟨gb102, 1, none⟩ = some (.int .i64 a0_1) := (blk_cell BK102.out 1).trans rfl
      have hcz9_2 : w6.cell? ⟨gb102, 2, none⟩ = some (.int .i64 a0_2) := (blk_cell BK102.out 2).trans rfl
      have hcz9_3 : w6.cell? ⟨gb102, 3, none⟩ = some (.int .u8 a0_3) := (blk_cell BK102.out 3).trans rfl
      have hcz9_4 : w6.cell? ⟨gb102, 4, none⟩ = some (.int .i64 a0_4) := (blk_cell BK102.out 4).trans rfl
      have hcz9_5 : w6.cell? ⟨gb102, 5, none⟩ = some (.int .i64 a0_5) := (blk_cell BK102.out 5).trans rfl
      have hcz9_6 : w6.cell? ⟨gb102, 6, none⟩ = some (.int .i64 a0_6) := (blk_cell BK102.out 6).trans rfl
      have hfz9_0 := blk_frozen BK102.out 0
      have hfz9_1 := blk_frozen BK102.out 1
      have hfz9_2 := blk_frozen BK102.out 2
      have hfz9_3 := blk_frozen BK102.out 3
      have hfz9_4 := blk_frozen BK102.out 4
      have hfz9_5 := blk_frozen BK102.out 5
      have hfz9_6 := blk_frozen BK102.out 6
      go_wp2
      go_meet
      case rel => exact ⟨_, ((a0_1 == 2)), (by first | rfl | (simp; done) | (simp [*]; done)), H', ⟨by first | omega | exact Nat.le_refl _⟩, ⟨by (with_reducible repeat (first | refine blk_drewN ?_ _ | refine blk_drew ?_ | refine blk_alloc ?_ _)); exact BK102.out⟩, ⟨by repeat (first | (with_reducible first | exact HB.out | apply below_alloc | apply pw_below_drewN | apply below_drew1 | refine below_set ?_ GE102.out) | exact HB.out)⟩⟩
  case rest =>
    clear HC5
    try clear p2
    try clear c5
    try clear c7
    try clear c7b0
    try clear c7b1
    try clear hcz8_0
    try clear hcz8_1
    try clear hcz8_2
    try clear hcz8_3
    try clear hcz8_4
    try clear hcz8_5
    try clear hcz8_6
    try clear hcz9_0
    try clear hcz9_1
    try clear hcz9_2
    try clear hcz9_3
    try clear hcz9_4
    try clear hcz9_5
    try clear hcz9_6
    try clear hfz8_0
    try clear hfz8_1
    try clear hfz8_2
    try clear hfz8_3
    try clear hfz8_4
    try clear hfz8_5
    try clear hfz8_6
    try clear hfz9_0
    try clear hfz9_1
    try clear hfz9_2
    try clear hfz9_3
    try clear hfz9_4
    try clear hfz9_5
    try clear hfz9_6
    obtain ⟨kq, x9_4, rfl, HA, HJ4, BK102, HB⟩ := hcut
    cases kq with
    | zero => exact absurd HA.out (by simp [ops_op_matches.j0])
    | succ kj4 =>
      have H := HA.out
      clear HA
      simp only [ops_op_matches.j0] at H
      by_cases c10 : x9_4 = true
      · subst c10
        have H1 : (some (a0_5 == a2)) = some r := by rw [if_pos rfl] at H; exact H
        clear H
        have H := H1
        clear H1
        obtain rfl := Option.some.inj H
        have hcz11_0 : wc.cell? ⟨gb102, 0, none⟩ = some (.string a0_0) := (blk_cell BK102.out 0).trans rfl
        have hcz11_1 : wc.cell? ⟨gb102, 1, none⟩ = some (.int .i64 a0_1) := (blk_cell BK102.out 1).trans rfl
        have hcz11_2 : wc.cell? ⟨gb102, 2, none⟩ = some (.int .i64 a0_2) := (blk_cell BK102.out 2).trans rfl
        have hcz11_3 : wc.cell? ⟨gb102, 3, none⟩ = some (.int .u8 a0_3) := (blk_cell BK102.out 3).trans rfl
        have hcz11_4 : wc.cell? ⟨gb102, 4, none⟩ = some (.int .i64 a0_4) := (blk_cell BK102.out 4).trans rfl
        have hcz11_5 : wc.cell? ⟨gb102, 5, none⟩ = some (.int .i64 a0_5) := (blk_cell BK102.out 5).trans rfl
        have hcz11_6 : wc.cell? ⟨gb102, 6, none⟩ = some (.int .i64 a0_6) := (blk_cell BK102.out 6).trans rfl
        have hfz11_0 := blk_frozen BK102.out 0
        have hfz11_1 := blk_frozen BK102.out 1
        have hfz11_2 := blk_frozen BK102.out 2
        have hfz11_3 := blk_frozen BK102.out 3
        have hfz11_4 := blk_frozen BK102.out 4
        have hfz11_5 := blk_frozen BK102.out 5
        have hfz11_6 := blk_frozen BK102.out 6
        go_wp2
        go_ret
        exact ⟨by first | rfl | (simp [errW_none, errW_some] <;> rfl) | (simp [*, errW_none, errW_some] <;> rfl), by repeat (first | (with_reducible first | exact HB.out | apply below_alloc | apply pw_below_drewN | apply below_drew1 | refine below_set ?_ GE102.out) | exact HB.out)⟩
      · replace c10 := Bool.eq_false_iff.mpr c10
        subst c10
        have H1 : (if a0_6 = 0 then (if a0_1 = 10 then (some (a0_4 == a1)) else (if a0_1 = 11 then (some (a0_4 == a1)) else (some true))) else (some (a0_6 == a3))) = some r := by rw [if_neg (show ¬ (false = true) by decide)] at H; exact H
        clear H
        have H := H1
        clear H1
        by_cases c12 : a0_6 = 0
        · rw [if_pos c12] at H
          have c12b0 : (a0_6 == 0) = true := beq_iff_eq.mpr c12
          have c12b1 : (a0_6 != 0) = false := bne_eq_false_iff_eq.mpr c12
          clear c12
          by_cases c13 : a0_1 = 10
          · rw [if_pos c13] at H
            have c13b0 : (a0_1 == 10) = true := beq_iff_eq.mpr c13
            have c13b1 : (a0_1 != 10) = false := bne_eq_false_iff_eq.mpr c13
            clear c13
            obtain rfl := Option.some.inj H
            have hcz14_0 : wc.cell? ⟨gb102, 0, none⟩ = some (.string a0_0) := (blk_cell BK102.out 0).trans rfl
            have hcz14_1 : wc.cell? ⟨gb102, 1, none⟩ = some (.int .i64 a0_1) := (blk_cell BK102.out 1).trans rfl
            have hcz14_2 : wc.cell? ⟨gb102, 2, none⟩ = some (.int .i64 a0_2) := (blk_cell BK102.out 2).trans rfl
            have hcz14_3 : wc.cell? ⟨gb102, 3, none⟩ = some (.int .u8 a0_3) := (blk_cell BK102.out 3).trans rfl
            have hcz14_4 : wc.cell? ⟨gb102, 4, none⟩ = some (.int .i64 a0_4) := (blk_cell BK102.out 4).trans rfl
            have hcz14_5 : wc.cell? ⟨gb102, 5, none⟩ = some (.int .i64 a0_5) := (blk_cell BK102.out 5).trans rfl
            have hcz14_6 : wc.cell? ⟨gb102, 6, none⟩ = some (.int .i64 a0_6) := (blk_cell BK102.out 6).trans rfl
            have hfz14_0 := blk_frozen BK102.out 0
            have hfz14_1 := blk_frozen BK102.out 1
            have hfz14_2 := blk_frozen BK102.out 2
            have hfz14_3 := blk_frozen BK102.out 3
            have hfz14_4 := blk_frozen BK102.out 4
            have hfz14_5 := blk_frozen BK102.out 5
            have hfz14_6 := blk_frozen BK102.out 6
            go_wp2
            go_ret
            exact ⟨by first | rfl | (simp [errW_none, errW_some] <;> rfl) | (simp [*, errW_none, errW_some] <;> rfl), by repeat (first | (with_reducible first | exact HB.out | apply below_alloc | apply pw_below_drewN | apply below_drew1 | refine below_set ?_ GE102.out) | exact HB.out)⟩
          · rw [if_neg c13] at H
            have c13b0 : (a0_1 == 10) = false := beq_eq_false_iff_ne.mpr c13
            have c13b1 : (a0_1 != 10) = true := bne_iff_ne.mpr c13
            by_cases c15 : a0_1 = 11
            · rw [if_pos c15] at H
              have c15b0 : (a0_1 == 11) = true := beq_iff_eq.mpr c15
              have c15b1 : (a0_1 != 11) = false := bne_eq_false_iff_eq.mpr c15
              clear c15
              obtain rfl := Option.some.inj H
              have hcz16_0 : wc.cell? ⟨gb102, 0, none⟩ = some (.string a0_0) := (blk_cell BK102.out 0).trans rfl
              have hcz16_1 : wc.cell? ⟨gb102, 1, none⟩ = some (.int .i64 a0_1) := (blk_cell BK102.out 1).trans rfl
              have hcz16_2 : wc.cell? ⟨gb102, 2, none⟩ = some (.int .i64 a0_2) := (blk_cell BK102.out 2).trans rfl
              have hcz16_3 : wc.cell? ⟨gb102, 3, none⟩ = some (.int .u8 a0_3) := (blk_cell BK102.out 3).trans rfl
              have hcz16_4 : wc.cell? ⟨gb102, 4, none⟩ = some (.int .i64 a0_4) := (blk_cell BK102.out 4).trans rfl
              have hcz16_5 : wc.cell? ⟨gb102, 5, none⟩ = some (.int .i64 a0_5) := (blk_cell BK102.out 5).trans rfl
              have hcz16_6 : wc.cell? ⟨gb102, 6, none⟩ = some (.int .i64 a0_6) := (blk_cell BK102.out 6).trans rfl
              have hfz16_0 := blk_frozen BK102.out 0
              have hfz16_1 := blk_frozen BK102.out 1
              have hfz16_2 := blk_frozen BK102.out 2
              have hfz16_3 := blk_frozen BK102.out 3
              have hfz16_4 := blk_frozen BK102.out 4
              have hfz16_5 := blk_frozen BK102.out 5
              have hfz16_6 := blk_frozen BK102.out 6
              go_wp2
              go_ret
              exact ⟨by first | rfl | (simp [errW_none, errW_some] <;> rfl) | (simp [*, errW_none, errW_some] <;> rfl), by repeat (first | (with_reducible first | exact HB.out | apply below_alloc | apply pw_below_drewN | apply below_drew1 | refine below_set ?_ GE102.out) | exact HB.out)⟩
            · rw [if_neg c15] at H
              have c15b0 : (a0_1 == 11) = false := beq_eq_false_iff_ne.mpr c15
              have c15b1 : (a0_1 != 11) = true := bne_iff_ne.mpr c15
              obtain rfl := Option.some.inj H
              have hcz17_0 : wc.cell? ⟨gb102, 0, none⟩ = some (.string a0_0) := (blk_cell BK102.out 0).trans rfl
              have hcz17_1 : wc.cell? ⟨gb102, 1, none⟩ = some (.int .i64 a0_1) := (blk_cell BK102.out 1).trans rfl
              have hcz17_2 : wc.cell? ⟨gb102, 2, none⟩ = some (.int .i64 a0_2) := (blk_cell BK102.out 2).trans rfl
              have hcz17_3 : wc.cell? ⟨gb102, 3, none⟩ = some (.int .u8 a0_3) := (blk_cell BK102.out 3).trans rfl
              have hcz17_4 : wc.cell? ⟨gb102, 4, none⟩ = some (.int .i64 a0_4) := (blk_cell BK102.out 4).trans rfl
              have hcz17_5 : wc.cell? ⟨gb102, 5, none⟩ = some (.int .i64 a0_5) := (blk_cell BK102.out 5).trans rfl
              have hcz17_6 : wc.cell? ⟨gb102, 6, none⟩ = some (.int .i64 a0_6) := (blk_cell BK102.out 6).trans rfl
              have hfz17_0 := blk_frozen BK102.out 0
              have hfz17_1 := blk_frozen BK102.out 1
              have hfz17_2 := blk_frozen BK102.out 2
              have hfz17_3 := blk_frozen BK102.out 3
              have hfz17_4 := blk_frozen BK102.out 4
              have hfz17_5 := blk_frozen BK102.out 5
              have hfz17_6 := blk_frozen BK102.out 6
              go_wp2
              go_ret
              exact ⟨by first | rfl | (simp [errW_none, errW_some] <;> rfl) | (simp [*, errW_none, errW_some] <;> rfl), by repeat (first | (with_reducible first | exact HB.out | apply below_alloc | apply pw_below_drewN | apply below_drew1 | refine below_set ?_ GE102.out) | exact HB.out)⟩
        · rw [if_neg c12] at H
          have c12b0 : (a0_6 == 0) = false := beq_eq_false_iff_ne.mpr c12
          have c12b1 : (a0_6 != 0) = true := bne_iff_ne.mpr c12
          obtain rfl := Option.some.inj H
          have hcz18_0 : wc.cell? ⟨gb102, 0, none⟩ = some (.string a0_0) := (blk_cell BK102.out 0).trans rfl
          have hcz18_1 : wc.cell? ⟨gb102, 1, none⟩ = some (.int .i64 a0_1) := (blk_cell BK102.out 1).trans rfl
          have hcz18_2 : wc.cell? ⟨gb102, 2, none⟩ = some (.int .i64 a0_2) := (blk_cell BK102.out 2).trans rfl
          have hcz18_3 : wc.cell? ⟨gb102, 3, none⟩ = some (.int .u8 a0_3) := (blk_cell BK102.out 3).trans rfl
          have hcz18_4 : wc.cell? ⟨gb102, 4, none⟩ = some (.int .i64 a0_4) := (blk_cell BK102.out 4).trans rfl
          have hcz18_5 : wc.cell? ⟨gb102, 5, none⟩ = some (.int .i64 a0_5) := (blk_cell BK102.out 5).trans rfl
          have hcz18_6 : wc.cell? ⟨gb102, 6, none⟩ = some (.int .i64 a0_6) := (blk_cell BK102.out 6).trans rfl
          have hfz18_0 := blk_frozen BK102.out 0
          have hfz18_1 := blk_frozen BK102.out 1
          have hfz18_2 := blk_frozen BK102.out 2
          have hfz18_3 := blk_frozen BK102.out 3
          have hfz18_4 := blk_frozen BK102.out 4
          have hfz18_5 := blk_frozen BK102.out 5
          have hfz18_6 := blk_frozen BK102.out 6
          go_wp2
          go_ret
          exact ⟨by first | rfl | (simp [errW_none, errW_some] <;> rfl) | (simp [*, errW_none, errW_some] <;> rfl), by repeat (first | (with_reducible first | exact HB.out | apply below_alloc | apply pw_below_drewN | apply below_drew1 | refine below_set ?_ GE102.out) | exact HB.out)⟩

-- GIVEN: function 25 (ops_Identify)

/-! ### ops_Count: function 46 -/
def ops_Count.f  : Option (Int) := some 86
set_option maxHeartbeats 8000000 in
set_option maxRecDepth 100000 in
theorem ops_Count.calls  (r : Int) (w : World) (h : ops_Count.f  = some r) :
    Calls Tryd.prog 46 #[] w fun e w' => e = .returned (.int .i64 r) ∧ Drawn0 w w' := by
  have H : (some 86) = some r := h
  clear h
  obtain rfl := Option.some.inj H
  go_enter Tryd.func46, Tryd.ntmps46
  go_wp2
  go_ret
  exact ⟨by first | rfl | (simp; done) | (simp [*]; done), by repeat (first | exact Drawn0.refl _ | apply Drawn0.step)⟩

end Go.Proofs.YtgdfeehpbccbnaaDoor.Q
