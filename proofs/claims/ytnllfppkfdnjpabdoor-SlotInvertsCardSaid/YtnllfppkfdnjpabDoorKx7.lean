-- PRINTED by print.py (a twelfth state) out of the translation. Not trusted: Lean checks it.
import Derived.Test.YtnllfppkfdnjpabDoorChk
import Derived.Test.YtnllfppkfdnjpabDoorKx0
import Derived.Test.YtnllfppkfdnjpabDoorKx5
import Derived.Test.YtnllfppkfdnjpabDoorKx6
namespace Go.Proofs.YtnllfppkfdnjpabDoor.Q
open Go.RowKit Go.Proofs.YtnllfppkfdnjpabDoorW.PrintWords Go.Proofs.YtnllfppkfdnjpabDoorW.PrintLast Go.Proofs.YtnllfppkfdnjpabDoorW.PrintMore
attribute [local go_sem] max2_int min2_int max_two min_two max_three min_three max_four min_four   -- for this text's walks alone
set_option linter.unusedVariables false
set_option linter.unusedSimpArgs false

/-! ### slot_Encode: function 27 -/
def slot_Encode.f (k : Nat) (a0_0 : Int) (a0_1 : Bool) (a0_2 : Int) (a0_3 : Int) (a0_4 : Int) (a0_5 : Int) : Option (List Int × Int) := (insn_Check.f a0_0 a0_1 a0_2 a0_3 a0_4 a0_5).bind fun t160 => (if t160 = 0 then ((ops_Code.f a0_0 a0_1).bind fun bt161 => ((ops_Fixed.f a0_0).bind fun bt163 => (if 0 ≤ 281474976710656 then ((some (List.replicate 0 0 : List Int)).bind fun y166 => ((some (([bt161.1, (Go.bits .or .i64 (wrap64 ((Go.bits .or .i64 a0_3 bt163.1) * 16)) a0_2) % 256] : List Int) : List Int)).bind fun y169 => (if y166.length + y169.length < 140737488355328 then ((slot_put_int.f k (y166 ++ y169) (Go.bits .or .i64 a0_4 bt163.2.1) 2).bind fun t175 => ((slot_put_int64.f k t175 (Go.bits .or .i64 a0_5 bt163.2.2) 4).bind fun t178 => ((insn_Slots.f a0_0).bind fun t181 => (if t181 = 2 then ((slot_put_int.f k t178 0 4).bind fun t182 => ((slot_put_int64.f k t182 (a0_5 / 4294967296) 4).bind fun t185 => (some (t185, 0)))) else (some (t178, 0)))))) else (none)))) else (none)))) else (some (([] : List Int), t160)))
theorem slot_Encode.mono : ∀ a0 a1 a2 a3 a4 a5 k, LeO (slot_Encode.f k a0 a1 a2 a3 a4 a5) (slot_Encode.f (k + 1) a0 a1 a2 a3 a4 a5) := by
  intro a0 a1 a2 a3 a4 a5 k
  unfold slot_Encode.f
  repeat' first
      | (with_reducible exact slot_put_int.mono _ _ _ _)
      | (with_reducible exact slot_put_int64.mono _ _ _ _)
      | (with_reducible exact LeO.refl _)
      | (with_reducible exact LeO.none _)
      | (with_reducible refine LeO.ite ?_ ?_)
      | (with_reducible refine LeO.bind ?_ (fun _ => ?_))
      | exact slot_put_int.mono _ _ _ _
      | exact slot_put_int64.mono _ _ _ _
      | exact LeO.none _
      | refine LeO.ite ?_ ?_
      | refine LeO.bind ?_ (fun _ => ?_)
def slot_Encode.T6 : Bool × List (List Nat × List Nat) := (true, [([], []), ([], []), ([], []), ([2], [2]), ([], []), ([3, 4], [3, 4]), ([5], [5]), ([], []), ([7], [7]), ([6, 8], [6, 8]), ([9], [9]), ([1, 10], [1, 10]), ([0, 11], [0, 11]), ([12, 12, 0, 1, 2, 3, 4, 5, 6, 7, 8, 9, 10, 11, 12], [12])])
def slot_Encode.B6 : List Nat := [0, 0, 0, 4, 0, 28, 60, 0, 128, 508, 1020, 2046, 4095, 8191]
theorem slot_Encode.tab6 : rtab .any (opsOf Tryd.f27 6) = slot_Encode.T6 := by kernel_rfl
theorem slot_Encode.bits6 : waitsOk slot_Encode.T6.2 slot_Encode.B6 = true := by kernel_rfl
set_option maxHeartbeats 8000000 in
set_option maxRecDepth 100000 in
theorem slot_Encode.calls (k : Nat) (a0_0 : Int) (a0_1 : Bool) (a0_2 : Int) (a0_3 : Int) (a0_4 : Int) (a0_5 : Int) (r1 : List Int) (r2 : Int) (w : World) (h : slot_Encode.f k a0_0 a0_1 a0_2 a0_3 a0_4 a0_5 = some (r1, r2)) (hG : GG w) :
    Calls Tryd.prog 27 #[.agg #[.int .i64 a0_0, .bool a0_1, .int .i64 a0_2, .int .i64 a0_3, .int .i64 a0_4, .int .i64 a0_5]] w fun e w' => ∃ v0_ : Value, e = .returned (.tuple #[v0_, .int .i64 r2]) ∧ Kd.R (Kd.int .u8) 5 w' w.heap.size (fun _ => True) v0_ r1 ∧ Below w.heap.size w w' := by
  have hu23 := Tryd.underlying23
  have HB := Aside0.mk (Below.refl w.heap.size w)
  have H : ((insn_Check.f a0_0 a0_1 a0_2 a0_3 a0_4 a0_5).bind fun t160 => (if t160 = 0 then ((ops_Code.f a0_0 a0_1).bind fun bt161 => ((ops_Fixed.f a0_0).bind fun bt163 => (if 0 ≤ 281474976710656 then ((some (List.replicate 0 0 : List Int)).bind fun y166 => ((some (([bt161.1, (Go.bits .or .i64 (wrap64 ((Go.bits .or .i64 a0_3 bt163.1) * 16)) a0_2) % 256] : List Int) : List Int)).bind fun y169 => (if y166.length + y169.length < 140737488355328 then ((slot_put_int.f k (y166 ++ y169) (Go.bits .or .i64 a0_4 bt163.2.1) 2).bind fun t175 => ((slot_put_int64.f k t175 (Go.bits .or .i64 a0_5 bt163.2.2) 4).bind fun t178 => ((insn_Slots.f a0_0).bind fun t181 => (if t181 = 2 then ((slot_put_int.f k t178 0 4).bind fun t182 => ((slot_put_int64.f k t182 (a0_5 / 4294967296) 4).bind fun t185 => (some (t185, 0)))) else (some (t178, 0)))))) else (none)))) else (none)))) else (some (([] : List Int), t160)))) = some (r1, r2) := h
  clear h
  replace H := Option.bind_eq_some_iff.mp H
  obtain ⟨t160, A20, H⟩ := H
  have A2 := Aside0.mk A20
  clear A20
  by_cases c3 : t160 = 0
  · rw [if_pos c3] at H
    have c3b0 : (t160 == 0) = true := beq_iff_eq.mpr c3
    have c3b1 : (t160 != 0) = false := bne_eq_false_iff_eq.mpr c3
    clear c3
    replace H := Option.bind_eq_some_iff.mp H
    obtain ⟨⟨t161, t162⟩, A40, H⟩ := H
    replace H : ((ops_Fixed.f a0_0).bind fun bt163 => (if 0 ≤ 281474976710656 then ((some (List.replicate 0 0 : List Int)).bind fun y166 => ((some (([t161, (Go.bits .or .i64 (wrap64 ((Go.bits .or .i64 a0_3 bt163.1) * 16)) a0_2) % 256] : List Int) : List Int)).bind fun y169 => (if y166.length + y169.length < 140737488355328 then ((slot_put_int.f k (y166 ++ y169) (Go.bits .or .i64 a0_4 bt163.2.1) 2).bind fun t175 => ((slot_put_int64.f k t175 (Go.bits .or .i64 a0_5 bt163.2.2) 4).bind fun t178 => ((insn_Slots.f a0_0).bind fun t181 => (if t181 = 2 then ((slot_put_int.f k t178 0 4).bind fun t182 => ((slot_put_int64.f k t182 (a0_5 / 4294967296) 4).bind fun t185 => (some (t185, 0)))) else (some (t178, 0)))))) else (none)))) else (none))) = some (r1, r2) := H
    have A4 := Aside0.mk A40
    clear A40
    replace H := Option.bind_eq_some_iff.mp H
    obtain ⟨⟨t163, t164, t165⟩, A50, H⟩ := H
    replace H : (if 0 ≤ 281474976710656 then ((some (List.replicate 0 0 : List Int)).bind fun y166 => ((some (([t161, (Go.bits .or .i64 (wrap64 ((Go.bits .or .i64 a0_3 t163) * 16)) a0_2) % 256] : List Int) : List Int)).bind fun y169 => (if y166.length + y169.length < 140737488355328 then ((slot_put_int.f k (y166 ++ y169) (Go.bits .or .i64 a0_4 t164) 2).bind fun t175 => ((slot_put_int64.f k t175 (Go.bits .or .i64 a0_5 t165) 4).bind fun t178 => ((insn_Slots.f a0_0).bind fun t181 => (if t181 = 2 then ((slot_put_int.f k t178 0 4).bind fun t182 => ((slot_put_int64.f k t182 (a0_5 / 4294967296) 4).bind fun t185 => (some (t185, 0)))) else (some (t178, 0)))))) else (none)))) else (none)) = some (r1, r2) := H
    have A5 := Aside0.mk A50
    clear A50
    by_cases c6 : 0 ≤ 281474976710656
    · rw [if_pos c6] at H
      have c6b0 := eq_true c6
      have c6b1 : decide (0 ≤ 281474976710656) = true := decide_eq_true c6
      clear c6
      obtain ⟨y166, hy166⟩ : ∃ y_ : List Int, y_ = (List.replicate 0 0) := ⟨_, rfl⟩
      replace H : ((some (([t161, (Go.bits .or .i64 (wrap64 ((Go.bits .or .i64 a0_3 t163) * 16)) a0_2) % 256] : List Int) : List Int)).bind fun y169 => (if y166.length + y169.length < 140737488355328 then ((slot_put_int.f k (y166 ++ y169) (Go.bits .or .i64 a0_4 t164) 2).bind fun t175 => ((slot_put_int64.f k t175 (Go.bits .or .i64 a0_5 t165) 4).bind fun t178 => ((insn_Slots.f a0_0).bind fun t181 => (if t181 = 2 then ((slot_put_int.f k t178 0 4).bind fun t182 => ((slot_put_int64.f k t182 (a0_5 / 4294967296) 4).bind fun t185 => (some (t185, 0)))) else (some (t178, 0)))))) else (none))) = some (r1, r2) := by first | (rw [hy166]; with_reducible exact H) | (have H2_ := (Option.bind_some _ _).symm.trans H; rw [hy166]; with_reducible exact H2_) | (have H2_ := (Option.bind_some _ _).symm.trans H; with_reducible exact H2_) | with_reducible exact H | (rw [hy166]; exact H) | exact H
      have Ny166 := Aside0.mk hy166
      clear hy166
      obtain ⟨y169, hy169⟩ : ∃ y_ : List Int, y_ = (([t161, (Go.bits .or .i64 (wrap64 ((Go.bits .or .i64 a0_3 t163) * 16)) a0_2) % 256] : List Int)) := ⟨_, rfl⟩
      replace H : (if y166.length + y169.length < 140737488355328 then ((slot_put_int.f k (y166 ++ y169) (Go.bits .or .i64 a0_4 t164) 2).bind fun t175 => ((slot_put_int64.f k t175 (Go.bits .or .i64 a0_5 t165) 4).bind fun t178 => ((insn_Slots.f a0_0).bind fun t181 => (if t181 = 2 then ((slot_put_int.f k t178 0 4).bind fun t182 => ((slot_put_int64.f k t182 (a0_5 / 4294967296) 4).bind fun t185 => (some (t185, 0)))) else (some (t178, 0)))))) else (none)) = some (r1, r2) := by first | (rw [hy169]; with_reducible exact H) | (have H2_ := (Option.bind_some _ _).symm.trans H; rw [hy169]; with_reducible exact H2_) | (have H2_ := (Option.bind_some _ _).symm.trans H; with_reducible exact H2_) | with_reducible exact H | (rw [hy169]; exact H) | exact H
      have Ny169 := Aside0.mk hy169
      clear hy169
      by_cases c7 : y166.length + y169.length < 140737488355328
      · rw [if_pos c7] at H
        have LMc7 := Aside0.mk c7
        clear c7
        obtain ⟨y172, hy172⟩ : ∃ y_ : List Int, y_ = (y166 ++ y169) := ⟨_, rfl⟩
        replace H : ((slot_put_int.f k y172 (Go.bits .or .i64 a0_4 t164) 2).bind fun t175 => ((slot_put_int64.f k t175 (Go.bits .or .i64 a0_5 t165) 4).bind fun t178 => ((insn_Slots.f a0_0).bind fun t181 => (if t181 = 2 then ((slot_put_int.f k t178 0 4).bind fun t182 => ((slot_put_int64.f k t182 (a0_5 / 4294967296) 4).bind fun t185 => (some (t185, 0)))) else (some (t178, 0)))))) = some (r1, r2) := by first | (rw [hy172]; with_reducible exact H) | (have H2_ := (Option.bind_some _ _).symm.trans H; rw [hy172]; with_reducible exact H2_) | (have H2_ := (Option.bind_some _ _).symm.trans H; with_reducible exact H2_) | with_reducible exact H | (rw [hy172]; exact H) | exact H
        have Ny172 := Aside0.mk hy172
        clear hy172
        replace H := Option.bind_eq_some_iff.mp H
        obtain ⟨t175, A80, H⟩ := H
        have A8 := Aside0.mk A80
        clear A80
        replace H := Option.bind_eq_some_iff.mp H
        obtain ⟨t178, A90, H⟩ := H
        replace H : ((insn_Slots.f a0_0).bind fun t181 => (if t181 = 2 then ((slot_put_int.f k t178 0 4).bind fun t182 => ((slot_put_int64.f k t182 (a0_5 / 4294967296) 4).bind fun t185 => (some (t185, 0)))) else (some (t178, 0)))) = some (r1, r2) := H
        have A9 := Aside0.mk A90
        clear A90
        replace H := Option.bind_eq_some_iff.mp H
        obtain ⟨t181, A100, H⟩ := H
        replace H : (if t181 = 2 then ((slot_put_int.f k t178 0 4).bind fun t182 => ((slot_put_int64.f k t182 (a0_5 / 4294967296) 4).bind fun t185 => (some (t185, 0)))) else (some (t178, 0))) = some (r1, r2) := H
        have A10 := Aside0.mk A100
        clear A100
        by_cases c11 : t181 = 2
        · rw [if_pos c11] at H
          have c11b0 : (t181 == 2) = true := beq_iff_eq.mpr c11
          have c11b1 : (t181 != 2) = false := bne_eq_false_iff_eq.mpr c11
          clear c11
          replace H := Option.bind_eq_some_iff.mp H
          obtain ⟨t182, A120, H⟩ := H
          replace H : ((slot_put_int64.f k t182 (a0_5 / 4294967296) 4).bind fun t185 => (some (t185, 0))) = some (r1, r2) := H
          have A12 := Aside0.mk A120
          clear A120
          replace H := Option.bind_eq_some_iff.mp H
          obtain ⟨t185, A130, H⟩ := H
          replace H : (some (t185, 0)) = some (r1, r2) := H
          have A13 := Aside0.mk A130
          clear A130
          simp only [Option.some.injEq, Prod.mk.injEq] at H
          obtain ⟨rfl, rfl⟩ := H
          go_enter Tryd.func27, Tryd.ntmps27
          try go_wp2_with (first | ((with_reducible refine gate_dst (N := 1) rfl ?_); refine box_event ?hg (N := 1) ?hd (cs := #[.int .i64 a0_0, .bool a0_1, .int .i64 a0_2, .int .i64 a0_3, .int .i64 a0_4, .int .i64 a0_5]) (t := 23) ?hr ?_; (case hd => rfl); (case hg => rfl); (case hr => first | (go_simp; done) | (go_simp; rfl)); intro gb159 hg w14 hbox hb; have n0_ := Aside0.mk (below_step (by repeat (first | (with_reducible first | exact HB.out | apply below_alloc | apply pw_below_drewN | apply below_drew1) | exact HB.out)) hb); have n1_ := Aside0.mk (hbox); have n2_ := Aside0.mk ((by rw [hg]; exact (below_size (by repeat (first | (with_reducible first | exact HB.out | apply below_alloc | apply pw_below_drewN | apply below_drew1) | exact HB.out))) : w.heap.size ≤ gb159)); have n3_ := Aside0.mk ((by rw [hg]; exact (below_size (by repeat (first | (with_reducible first | exact HB.out | apply below_alloc | apply pw_below_drewN | apply below_drew1) | exact HB.out))) : w.heap.size ≤ gb159)); clear HB; have HB := n0_; have BK159 := n1_; have GW159 := n2_; have GE159 := n3_; clear n0_ n1_ n2_ n3_; clear hb hbox hg; have hcz15_0 : w14.cell? ⟨gb159, 0, none⟩ = some (.int .i64 a0_0) := (blk_cell BK159.out 0).trans rfl; have hcz15_1 : w14.cell? ⟨gb159, 1, none⟩ = some (.bool a0_1) := (blk_cell BK159.out 1).trans rfl; have hcz15_2 : w14.cell? ⟨gb159, 2, none⟩ = some (.int .i64 a0_2) := (blk_cell BK159.out 2).trans rfl; have hcz15_3 : w14.cell? ⟨gb159, 3, none⟩ = some (.int .i64 a0_3) := (blk_cell BK159.out 3).trans rfl; have hcz15_4 : w14.cell? ⟨gb159, 4, none⟩ = some (.int .i64 a0_4) := (blk_cell BK159.out 4).trans rfl; have hcz15_5 : w14.cell? ⟨gb159, 5, none⟩ = some (.int .i64 a0_5) := (blk_cell BK159.out 5).trans rfl; have hfz15_0 := blk_frozen BK159.out 0; have hfz15_1 := blk_frozen BK159.out 1; have hfz15_2 := blk_frozen BK159.out 2; have hfz15_3 := blk_frozen BK159.out 3; have hfz15_4 := blk_frozen BK159.out 4; have hfz15_5 := blk_frozen BK159.out 5) | ((with_reducible refine gate_callee (f := 55) rfl ?_); refine goesL_ (some 12) rfl rfl Tryd.func55 (by kernel_rfl) rfl #[.agg #[.int .i64 a0_0, .bool a0_1, .int .i64 a0_2, .int .i64 a0_3, .int .i64 a0_4, .int .i64 a0_5]] rfl (by (try simp only [List.map_toArray, List.map_cons, List.map_nil]); first | done | rfl | (simp only [List.length_drop, List.length_take]; rfl)) ?_; (with_reducible refine (insn_Check.calls a0_0 a0_1 a0_2 a0_3 a0_4 a0_5 t160 _ A2.out (G_at hG (by repeat (first | (with_reducible first | exact HB.out | apply below_alloc | apply pw_below_drewN | apply below_drew1 | refine below_set ?_ GE159.out) | exact HB.out)))).mono ?_); rintro e w16 ⟨rfl, hb⟩; refine ⟨_, rfl, ?_⟩; have n0_ := Aside0.mk (blk_below (g := gb159) (o := .cells #[.int .i64 a0_0, .bool a0_1, .int .i64 a0_2, .int .i64 a0_3, .int .i64 a0_4, .int .i64 a0_5] 23 (0, 0)) (by (with_reducible repeat (first | refine blk_drewN ?_ _ | refine blk_drew ?_ | refine blk_alloc ?_ _)); exact BK159.out) hb); have n1_ := Aside0.mk (below_step (by repeat (first | (with_reducible first | exact HB.out | apply below_alloc | apply pw_below_drewN | apply below_drew1 | refine below_set ?_ GE159.out) | exact HB.out)) hb); clear BK159; clear HB; have BK159 := n0_; have HB := n1_; clear n0_ n1_; (try clear hb); (try clear hb2); (try clear hk); (try clear hi); have hcz17_0 : w16.cell? ⟨gb159, 0, none⟩ = some (.int .i64 a0_0) := (blk_cell BK159.out 0).trans rfl; have hcz17_1 : w16.cell? ⟨gb159, 1, none⟩ = some (.bool a0_1) := (blk_cell BK159.out 1).trans rfl; have hcz17_2 : w16.cell? ⟨gb159, 2, none⟩ = some (.int .i64 a0_2) := (blk_cell BK159.out 2).trans rfl; have hcz17_3 : w16.cell? ⟨gb159, 3, none⟩ = some (.int .i64 a0_3) := (blk_cell BK159.out 3).trans rfl; have hcz17_4 : w16.cell? ⟨gb159, 4, none⟩ = some (.int .i64 a0_4) := (blk_cell BK159.out 4).trans rfl; have hcz17_5 : w16.cell? ⟨gb159, 5, none⟩ = some (.int .i64 a0_5) := (blk_cell BK159.out 5).trans rfl; have hfz17_0 := blk_frozen BK159.out 0; have hfz17_1 := blk_frozen BK159.out 1; have hfz17_2 := blk_frozen BK159.out 2; have hfz17_3 := blk_frozen BK159.out 3; have hfz17_4 := blk_frozen BK159.out 4; have hfz17_5 := blk_frozen BK159.out 5) | ((with_reducible refine gate_callee (f := 56) rfl ?_); refine goesL_ (some 21) rfl rfl Tryd.func56 (by kernel_rfl) rfl #[.int .i64 a0_0, .bool a0_1] rfl (by (try simp only [List.map_toArray, List.map_cons, List.map_nil]); first | done | rfl | (simp only [List.length_drop, List.length_take]; rfl)) ?_; (with_reducible refine (ops_Code.calls a0_0 a0_1 t161 t162 _ A4.out (G_at hG (by repeat (first | (with_reducible first | exact HB.out | apply below_alloc | apply pw_below_drewN | apply below_drew1 | refine below_set ?_ GE159.out) | exact HB.out)))).mono ?_); rintro e w18 ⟨rfl, hb⟩; refine ⟨_, rfl, ?_⟩; have n0_ := Aside0.mk (blk_below (g := gb159) (o := .cells #[.int .i64 a0_0, .bool a0_1, .int .i64 a0_2, .int .i64 a0_3, .int .i64 a0_4, .int .i64 a0_5] 23 (0, 0)) (by (with_reducible repeat (first | refine blk_drewN ?_ _ | refine blk_drew ?_ | refine blk_alloc ?_ _)); exact BK159.out) hb); have n1_ := Aside0.mk (below_step (by repeat (first | (with_reducible first | exact HB.out | apply below_alloc | apply pw_below_drewN | apply below_drew1 | refine below_set ?_ GE159.out) | exact HB.out)) hb); clear BK159; clear HB; have BK159 := n0_; have HB := n1_; clear n0_ n1_; (try clear hb); (try clear hb2); (try clear hk); (try clear hi); have hcz19_0 : w18.cell? ⟨gb159, 0, none⟩ = some (.int .i64 a0_0) := (blk_cell BK159.out 0).trans rfl; have hcz19_1 : w18.cell? ⟨gb159, 1, none⟩ = some (.bool a0_1) := (blk_cell BK159.out 1).trans rfl; have hcz19_2 : w18.cell? ⟨gb159, 2, none⟩ = some (.int .i64 a0_2) := (blk_cell BK159.out 2).trans rfl; have hcz19_3 : w18.cell? ⟨gb159, 3, none⟩ = some (.int .i64 a0_3) := (blk_cell BK159.out 3).trans rfl; have hcz19_4 : w18.cell? ⟨gb159, 4, none⟩ = some (.int .i64 a0_4) := (blk_cell BK159.out 4).trans rfl; have hcz19_5 : w18.cell? ⟨gb159, 5, none⟩ = some (.int .i64 a0_5) := (blk_cell BK159.out 5).trans rfl; have hfz19_0 := blk_frozen BK159.out 0; have hfz19_1 := blk_frozen BK159.out 1; have hfz19_2 := blk_frozen BK159.out 2; have hfz19_3 := blk_frozen BK159.out 3; have hfz19_4 := blk_frozen BK159.out 4; have hfz19_5 := blk_frozen BK159.out 5) | ((with_reducible refine gate_callee (f := 44) rfl ?_); refine goesL_ (some 27) rfl rfl Tryd.func44 (by kernel_rfl) rfl #[.int .i64 a0_0] rfl (by (try simp only [List.map_toArray, List.map_cons, List.map_nil]); first | done | rfl | (simp only [List.length_drop, List.length_take]; rfl)) ?_; (with_reducible refine (ops_Fixed.calls a0_0 t163 t164 t165 _ A5.out (G_at hG (by repeat (first | (with_reducible first | exact HB.out | apply below_alloc | apply pw_below_drewN | apply below_drew1 | refine below_set ?_ GE159.out) | exact HB.out)))).mono ?_); rintro e w20 ⟨rfl, hb⟩; refine ⟨_, rfl, ?_⟩; have n0_ := Aside0.mk (blk_below (g := gb159) (o := .cells #[.int .i64 a0_0, .bool a0_1, .int .i64 a0_2, .int .i64 a0_3, .int .i64 a0_4, .int .i64 a0_5] 23 (0, 0)) (by (with_reducible repeat (first | refine blk_drewN ?_ _ | refine blk_drew ?_ | refine blk_alloc ?_ _)); exact BK159.out) hb); have n1_ := Aside0.mk (below_step (by repeat (first | (with_reducible first | exact HB.out | apply below_alloc | apply pw_below_drewN | apply below_drew1 | refine below_set ?_ GE159.out) | exact HB.out)) hb); clear BK159; clear HB; have BK159 := n0_; have HB := n1_; clear n0_ n1_; (try clear hb); (try clear hb2); (try clear hk); (try clear hi)))
          have n0_ := Aside0.mk (blk_drew BK159.out)
          have n1_ := Aside0.mk (below_drew1 HB.out)
          clear BK159
          clear HB
          have BK159 := n0_
          have HB := n1_
          clear n0_ n1_
          refine start_ (n := 14) (S := fun w' => w'.cell? ⟨gb159, 0, none⟩ = some (.int .i64 a0_0) ∧ w'.cell? ⟨gb159, 1, none⟩ = some (.bool a0_1) ∧ w'.cell? ⟨gb159, 2, none⟩ = some (.int .i64 a0_2) ∧ w'.cell? ⟨gb159, 3, none⟩ = some (.int .i64 a0_3) ∧ w'.cell? ⟨gb159, 4, none⟩ = some (.int .i64 a0_4) ∧ w'.cell? ⟨gb159, 5, none⟩ = some (.int .i64 a0_5)) (ds := []) #[false, false, false, false, false, false, false, false, false, false, false, false, false, false] (by kernel_rfl) rfl rfl ⟨(blk_cell BK159.out 0).trans rfl, (blk_cell BK159.out 1).trans rfl, (blk_cell BK159.out 2).trans rfl, (blk_cell BK159.out 3).trans rfl, (blk_cell BK159.out 4).trans rfl, (blk_cell BK159.out 5).trans rfl⟩ (fun hHeld => ?_); refine with_tabW slot_Encode.tab6 slot_Encode.bits6 (fun HT_ HW_ => ?_)
          generalize w20.drew = w21 at BK159 HB hHeld ⊢
          refine pure_ (i := 1) (N := some 32) (v := ?_) (a' := ?_) #[false, true, false, false, false, false, false, false, false, false, false, false, false, false] rfl rfl (any_of HT_.out (by kernel_rfl)) (fun _ _ _ h => h) (Or.inl ⟨by rfl, ?_⟩) ?_ ?_
          rotate_left
          · intro w'
            go_simp
            with_reducible rfl
          rotate_left
          · simp only [Act.put, List.setIfInBounds_toArray, List.set_cons_zero, List.set_cons_succ, i64_w, i32_w]
            rfl
          refine pure_ (i := 2) (N := some 33) (v := ?_) (a' := ?_) #[false, true, true, false, false, false, false, false, false, false, false, false, false, false] rfl rfl (any_of HT_.out (by kernel_rfl)) (fun _ _ _ h => h) (Or.inl ⟨by rfl, ?_⟩) ?_ ?_
          rotate_left
          · intro w'
            go_simp
            with_reducible rfl
          rotate_left
          · simp only [Act.put, List.setIfInBounds_toArray, List.set_cons_zero, List.set_cons_succ, i64_w, i32_w]
            rfl
          refine pure_ (i := 4) (N := some 35) (v := ?_) (a' := ?_) #[false, true, true, false, true, false, false, false, false, false, false, false, false, false] rfl rfl (any_of HT_.out (by kernel_rfl)) (fun _ _ _ h => h) (Or.inl ⟨by rfl, ?_⟩) ?_ ?_
          rotate_left
          · intro w'
            go_simp
            with_reducible rfl
          rotate_left
          · simp only [Act.put, List.setIfInBounds_toArray, List.set_cons_zero, List.set_cons_succ, i64_w, i32_w]
            rfl
          refine pure_ (i := 7) (N := some 38) (v := ?_) (a' := ?_) #[false, true, true, false, true, false, false, true, false, false, false, false, false, false] rfl rfl (any_of HT_.out (by kernel_rfl)) (fun _ _ _ h => h) (Or.inl ⟨by rfl, ?_⟩) ?_ ?_
          rotate_left
          · intro w'
            go_simp
            with_reducible rfl
          rotate_left
          · simp only [Act.put, List.setIfInBounds_toArray, List.set_cons_zero, List.set_cons_succ, i64_w, i32_w]
            rfl
          refine take_ (i := 3) (N := some 34) (v := ?_) (a' := ?_) #[false, true, true, true, true, false, false, true, false, false, false, false, false, false] rfl rfl (take_ofW HT_.out HW_.out (by kernel_rfl)) (fun _ _ _ h => h) (Or.inl ⟨by rfl, ?_⟩) hHeld ?_ ?_
          rotate_left
          · rintro w' ⟨s0, s1, s2, s3, s4, s5⟩
            go_simp
            with_reducible rfl
          rotate_left
          · simp only [Act.put, List.setIfInBounds_toArray, List.set_cons_zero, List.set_cons_succ, i64_w, i32_w]
            rfl
          refine pure_ (i := 5) (N := some 36) (v := ?_) (a' := ?_) #[false, true, true, true, true, true, false, true, false, false, false, false, false, false] rfl rfl (any_of HT_.out (by kernel_rfl)) (fun _ _ _ h => h) (Or.inl ⟨by rfl, ?_⟩) ?_ ?_
          rotate_left
          · intro w'
            go_simp
            with_reducible rfl
          rotate_left
          · simp only [Act.put, List.setIfInBounds_toArray, List.set_cons_zero, List.set_cons_succ, i64_w, i32_w]
            rfl
          refine pure_ (i := 6) (N := some 37) (v := ?_) (a' := ?_) #[false, true, true, true, true, true, true, true, false, false, false, false, false, false] rfl rfl (any_of HT_.out (by kernel_rfl)) (fun _ _ _ h => h) (Or.inl ⟨by rfl, ?_⟩) ?_ ?_
          rotate_left
          · intro w'
            go_simp
            with_reducible rfl
          rotate_left
          · simp only [Act.put, List.setIfInBounds_toArray, List.set_cons_zero, List.set_cons_succ, i64_w, i32_w]
            rfl
          refine take_ (i := 8) (N := some 39) (v := ?_) (a' := ?_) #[false, true, true, true, true, true, true, true, true, false, false, false, false, false] rfl rfl (take_ofW HT_.out HW_.out (by kernel_rfl)) (fun _ _ _ h => h) (Or.inl ⟨by rfl, ?_⟩) hHeld ?_ ?_
          rotate_left
          · rintro w' ⟨s0, s1, s2, s3, s4, s5⟩
            go_simp
            with_reducible rfl
          rotate_left
          · simp only [Act.put, List.setIfInBounds_toArray, List.set_cons_zero, List.set_cons_succ, i64_w, i32_w]
            rfl
          refine pure_ (i := 9) (N := some 40) (v := ?_) (a' := ?_) #[false, true, true, true, true, true, true, true, true, true, false, false, false, false] rfl rfl (any_of HT_.out (by kernel_rfl)) (fun _ _ _ h => h) (Or.inl ⟨by rfl, ?_⟩) ?_ ?_
          rotate_left
          · intro w'
            go_simp
            with_reducible rfl
          rotate_left
          · simp only [Act.put, List.setIfInBounds_toArray, List.set_cons_zero, List.set_cons_succ, i64_w, i32_w]
            rfl
          refine pure_ (i := 10) (N := some 41) (v := ?_) (a' := ?_) #[false, true, true, true, true, true, true, true, true, true, true, false, false, false] rfl rfl (any_of HT_.out (by kernel_rfl)) (fun _ _ _ h => h) (Or.inl ⟨by rfl, ?_⟩) ?_ ?_
          rotate_left
          · intro w'
            go_simp
            with_reducible rfl
          rotate_left
          · simp only [Act.put, List.setIfInBounds_toArray, List.set_cons_zero, List.set_cons_succ, i64_w, i32_w]
            rfl
          refine join_ (σ := Value × Value) 2 #[true, true, true, true, true, true, true, true, true, true, true, true, false, false] (fun s_ => [(31, s_.1), (42, s_.2)]) (fun s_ w' => (w'.cell? ⟨gb159, 0, none⟩ = some (.int .i64 a0_0) ∧ w'.cell? ⟨gb159, 1, none⟩ = some (.bool a0_1) ∧ w'.cell? ⟨gb159, 2, none⟩ = some (.int .i64 a0_2) ∧ w'.cell? ⟨gb159, 3, none⟩ = some (.int .i64 a0_3) ∧ w'.cell? ⟨gb159, 4, none⟩ = some (.int .i64 a0_4) ∧ w'.cell? ⟨gb159, 5, none⟩ = some (.int .i64 a0_5)) ∧ (Kd.R (Kd.int .u8) 5 w' w.heap.size (fun k_ => some k_ ≠ (s_.2 : Value).ownBlock) s_.1 y166) ∧ (Kd.R (Kd.int .u8) 5 w' w.heap.size (fun k_ => some k_ ≠ (s_.1 : Value).ownBlock) s_.2 y169) ∧ (w'.heap[gb159]? = some (.cells #[.int .i64 a0_0, .bool a0_1, .int .i64 a0_2, .int .i64 a0_3, .int .i64 a0_4, .int .i64 a0_5] 23 (0, 0))) ∧ (Below w.heap.size w w')) ?_ ?_
          rotate_left
          · intro hCont
            refine two_ (i := 0) (j := 11) (Ni := some 31) (Nj := some 42) #[true, true, true, true, true, true, true, true, true, true, true, false, false, false] #[false, true, true, true, true, true, true, true, true, true, true, true, false, false] rfl rfl rfl rfl (two_of HT_.out (by kernel_rfl)) (by decide) (by decide) (fun K hK => ?_) (fun K hK => ?_)
            · skip
              refine Kd.R_make0_step (Kd.int .u8) _ 5 (by rfl) (N := 31) rfl 44 _ _ rfl 0 rfl rfl Tryd.underlying44 (.int .u8 0) 1 info5 rfl (by decide) (by omega) 0 (ok := fun _ => True) (okp := fun _ => True) rfl (fun _ hk => hk) trivial (by omega) (by omega) (Below.refl _ _) (Nat.le_refl _) ?_
              intro v167 w22 ho23 hb hg_ hnew_
              clear hg_ hnew_
              (first | rw [← Ny166.out] at ho23 | (simp only [Int.reduceToNat] at ho23; rw [← Ny166.out] at ho23))
              have n0_ := Aside0.mk (Kd.R_lower ho23 (below_size (by repeat (first | (with_reducible first | exact HB.out | apply below_alloc | apply pw_below_drewN | apply below_drew1 | refine below_set ?_ GE159.out) | exact HB.out))))
              have n1_ := Aside0.mk (blk_below (g := gb159) (o := .cells #[.int .i64 a0_0, .bool a0_1, .int .i64 a0_2, .int .i64 a0_3, .int .i64 a0_4, .int .i64 a0_5] 23 (0, 0)) (by (with_reducible repeat (first | refine blk_drewN ?_ _ | refine blk_drew ?_ | refine blk_alloc ?_ _)); exact BK159.out) hb)
              have n2_ := Aside0.mk (below_step (by repeat (first | (with_reducible first | exact HB.out | apply below_alloc | apply pw_below_drewN | apply below_drew1 | refine below_set ?_ GE159.out) | exact HB.out)) hb)
              clear BK159
              clear HB
              have HO168 := n0_
              have BK159 := n1_
              have HB := n2_
              clear n0_ n1_ n2_
              clear hb ho23
              refine hK.out _ _ ⟨(blk_cell BK159.out 0).trans rfl, (blk_cell BK159.out 1).trans rfl, (blk_cell BK159.out 2).trans rfl, (blk_cell BK159.out 3).trans rfl, (blk_cell BK159.out 4).trans rfl, (blk_cell BK159.out 5).trans rfl⟩ (fun hHeld => ?_)
              clear hK K
              refine norm_ (a' := ?_) ?_ ?_
              rotate_left
              · show Act.put _ (some 31) _ = _
                simp only [Act.put, List.setIfInBounds_toArray, List.set_cons_zero, List.set_cons_succ, i64_w, i32_w]
                rfl
              refine one_ (i := 11) (N := some 42) #[true, true, true, true, true, true, true, true, true, true, true, true, false, false] rfl rfl (one_of HT_.out (by kernel_rfl)) (by decide) (fun K hK => ?_)
              refine Kd.R_lit_step (Kd.int .u8) _ 5 ?hg (N := 42) ?hd (xs := ([t161, (Go.bits .or .i64 (wrap64 ((Go.bits .or .i64 a0_3 t163) * 16)) a0_2) % 256] : List Int)) (inner := [.int .u8 t161, .int .u8 ((Go.bits .or .i64 (wrap64 ((Go.bits .or .i64 a0_3 t163) * 16)) a0_2) % 256)]) (ok := fun _ => True) (okp := fun _ => True) ?hr ?hp (fun _ hk => hk) trivial (Below.refl _ _) (Nat.le_refl _) (by simp) ?_; (case hd => rfl); (case hg => rfl); (case hr => first | (go_simp; done) | (go_simp; rfl)); (case hp => exact (Reps.one (show Kd.M (Kd.int .u8) _ _ _ t161 [.int .u8 t161] from rfl) (Reps.one (show Kd.M (Kd.int .u8) _ _ _ ((Go.bits .or .i64 (wrap64 ((Go.bits .or .i64 a0_3 t163) * 16)) a0_2) % 256) [.int .u8 ((Go.bits .or .i64 (wrap64 ((Go.bits .or .i64 a0_3 t163) * 16)) a0_2) % 256)] from rfl) (Reps.none _ _))))
              intro v170 w24 ho25 hb hg_ hnew_
              clear hg_ hnew_
              (first | rw [← Ny169.out] at ho25 | (simp only [Int.reduceToNat] at ho25; rw [← Ny169.out] at ho25))
              have n0_ := Aside0.mk (Kd.R_elder' (by (with_reducible repeat (first | apply Kd.R_alloc | apply Kd.R_drewN | apply Kd.R_drew)); exact HO168.out) (Kd.R_base ho25) hb)
              have n1_ := Aside0.mk (Kd.R_lower (Kd.R_new' ho25 (Kd.R_lt (by (with_reducible repeat (first | apply Kd.R_alloc | apply Kd.R_drewN | apply Kd.R_drew)); exact HO168.out))) (below_size (by repeat (first | (with_reducible first | exact HB.out | apply below_alloc | apply pw_below_drewN | apply below_drew1 | refine below_set ?_ GE159.out) | exact HB.out))))
              have n2_ := Aside0.mk (blk_below (g := gb159) (o := .cells #[.int .i64 a0_0, .bool a0_1, .int .i64 a0_2, .int .i64 a0_3, .int .i64 a0_4, .int .i64 a0_5] 23 (0, 0)) (by (with_reducible repeat (first | refine blk_drewN ?_ _ | refine blk_drew ?_ | refine blk_alloc ?_ _)); exact BK159.out) hb)
              have n3_ := Aside0.mk (below_step (by repeat (first | (with_reducible first | exact HB.out | apply below_alloc | apply pw_below_drewN | apply below_drew1 | refine below_set ?_ GE159.out) | exact HB.out)) hb)
              clear HO168
              clear BK159
              clear HB
              have HO168 := n0_
              have HO171 := n1_
              have BK159 := n2_
              have HB := n3_
              clear n0_ n1_ n2_ n3_
              clear hb ho25
              refine hK.out _ _ ⟨(blk_cell BK159.out 0).trans rfl, (blk_cell BK159.out 1).trans rfl, (blk_cell BK159.out 2).trans rfl, (blk_cell BK159.out 3).trans rfl, (blk_cell BK159.out 4).trans rfl, (blk_cell BK159.out 5).trans rfl⟩ (fun hHeld => ?_)
              clear hK K
              refine norm_ (a' := ?_) ?_ ?_
              rotate_left
              · show Act.put _ (some 42) _ = _
                simp only [Act.put, List.setIfInBounds_toArray, List.set_cons_zero, List.set_cons_succ, i64_w, i32_w]
                rfl
              exact norm_ (by simp only [putAll, Act.put, List.setIfInBounds_toArray, List.set_cons_zero, List.set_cons_succ]) (hCont (v167, v170) _ ⟨hHeld, (by (with_reducible repeat (first | apply Kd.R_alloc | apply Kd.R_drewN | apply Kd.R_drew)); exact Kd.R_mono HO168.out (fun _ hk => hk.2)), (by (with_reducible repeat (first | apply Kd.R_alloc | apply Kd.R_drewN | apply Kd.R_drew)); exact Kd.R_mono HO171.out (fun _ hk => hk.2)), (by (with_reducible repeat (first | refine blk_drewN ?_ _ | refine blk_drew ?_ | refine blk_alloc ?_ _)); exact BK159.out), (by repeat (first | (with_reducible first | exact HB.out | apply below_alloc | apply pw_below_drewN | apply below_drew1 | refine below_set ?_ GE159.out) | exact HB.out))⟩)
            · skip
              refine Kd.R_lit_step (Kd.int .u8) _ 5 ?hg (N := 42) ?hd (xs := ([t161, (Go.bits .or .i64 (wrap64 ((Go.bits .or .i64 a0_3 t163) * 16)) a0_2) % 256] : List Int)) (inner := [.int .u8 t161, .int .u8 ((Go.bits .or .i64 (wrap64 ((Go.bits .or .i64 a0_3 t163) * 16)) a0_2) % 256)]) (ok := fun _ => True) (okp := fun _ => True) ?hr ?hp (fun _ hk => hk) trivial (Below.refl _ _) (Nat.le_refl _) (by simp) ?_; (case hd => rfl); (case hg => rfl); (case hr => first | (go_simp; done) | (go_simp; rfl)); (case hp => exact (Reps.one (show Kd.M (Kd.int .u8) _ _ _ t161 [.int .u8 t161] from rfl) (Reps.one (show Kd.M (Kd.int .u8) _ _ _ ((Go.bits .or .i64 (wrap64 ((Go.bits .or .i64 a0_3 t163) * 16)) a0_2) % 256) [.int .u8 ((Go.bits .or .i64 (wrap64 ((Go.bits .or .i64 a0_3 t163) * 16)) a0_2) % 256)] from rfl) (Reps.none _ _))))
              intro v170 w22 ho23 hb hg_ hnew_
              clear hg_ hnew_
              (first | rw [← Ny169.out] at ho23 | (simp only [Int.reduceToNat] at ho23; rw [← Ny169.out] at ho23))
              have n0_ := Aside0.mk (Kd.R_lower ho23 (below_size (by repeat (first | (with_reducible first | exact HB.out | apply below_alloc | apply pw_below_drewN | apply below_drew1 | refine below_set ?_ GE159.out) | exact HB.out))))
              have n1_ := Aside0.mk (blk_below (g := gb159) (o := .cells #[.int .i64 a0_0, .bool a0_1, .int .i64 a0_2, .int .i64 a0_3, .int .i64 a0_4, .int .i64 a0_5] 23 (0, 0)) (by (with_reducible repeat (first | refine blk_drewN ?_ _ | refine blk_drew ?_ | refine blk_alloc ?_ _)); exact BK159.out) hb)
              have n2_ := Aside0.mk (below_step (by repeat (first | (with_reducible first | exact HB.out | apply below_alloc | apply pw_below_drewN | apply below_drew1 | refine below_set ?_ GE159.out) | exact HB.out)) hb)
              clear BK159
              clear HB
              have HO171 := n0_
              have BK159 := n1_
              have HB := n2_
              clear n0_ n1_ n2_
              clear hb ho23
              refine hK.out _ _ ⟨(blk_cell BK159.out 0).trans rfl, (blk_cell BK159.out 1).trans rfl, (blk_cell BK159.out 2).trans rfl, (blk_cell BK159.out 3).trans rfl, (blk_cell BK159.out 4).trans rfl, (blk_cell BK159.out 5).trans rfl⟩ (fun hHeld => ?_)
              clear hK K
              refine norm_ (a' := ?_) ?_ ?_
              rotate_left
              · show Act.put _ (some 42) _ = _
                simp only [Act.put, List.setIfInBounds_toArray, List.set_cons_zero, List.set_cons_succ, i64_w, i32_w]
                rfl
              refine one_ (i := 0) (N := some 31) #[true, true, true, true, true, true, true, true, true, true, true, true, false, false] rfl rfl (one_of HT_.out (by kernel_rfl)) (by decide) (fun K hK => ?_)
              refine Kd.R_make0_step (Kd.int .u8) _ 5 (by rfl) (N := 31) rfl 44 _ _ rfl 0 rfl rfl Tryd.underlying44 (.int .u8 0) 1 info5 rfl (by decide) (by omega) 0 (ok := fun _ => True) (okp := fun _ => True) rfl (fun _ hk => hk) trivial (by omega) (by omega) (Below.refl _ _) (Nat.le_refl _) ?_
              intro v167 w24 ho25 hb hg_ hnew_
              clear hg_ hnew_
              (first | rw [← Ny166.out] at ho25 | (simp only [Int.reduceToNat] at ho25; rw [← Ny166.out] at ho25))
              have n0_ := Aside0.mk (Kd.R_elder' (by (with_reducible repeat (first | apply Kd.R_alloc | apply Kd.R_drewN | apply Kd.R_drew)); exact HO171.out) (Kd.R_base ho25) hb)
              have n1_ := Aside0.mk (Kd.R_lower (Kd.R_new' ho25 (Kd.R_lt (by (with_reducible repeat (first | apply Kd.R_alloc | apply Kd.R_drewN | apply Kd.R_drew)); exact HO171.out))) (below_size (by repeat (first | (with_reducible first | exact HB.out | apply below_alloc | apply pw_below_drewN | apply below_drew1 | refine below_set ?_ GE159.out) | exact HB.out))))
              have n2_ := Aside0.mk (blk_below (g := gb159) (o := .cells #[.int .i64 a0_0, .bool a0_1, .int .i64 a0_2, .int .i64 a0_3, .int .i64 a0_4, .int .i64 a0_5] 23 (0, 0)) (by (with_reducible repeat (first | refine blk_drewN ?_ _ | refine blk_drew ?_ | refine blk_alloc ?_ _)); exact BK159.out) hb)
              have n3_ := Aside0.mk (below_step (by repeat (first | (with_reducible first | exact HB.out | apply below_alloc | apply pw_below_drewN | apply below_drew1 | refine below_set ?_ GE159.out) | exact HB.out)) hb)
              clear HO171
              clear BK159
              clear HB
              have HO171 := n0_
              have HO168 := n1_
              have BK159 := n2_
              have HB := n3_
              clear n0_ n1_ n2_ n3_
              clear hb ho25
              refine hK.out _ _ ⟨(blk_cell BK159.out 0).trans rfl, (blk_cell BK159.out 1).trans rfl, (blk_cell BK159.out 2).trans rfl, (blk_cell BK159.out 3).trans rfl, (blk_cell BK159.out 4).trans rfl, (blk_cell BK159.out 5).trans rfl⟩ (fun hHeld => ?_)
              clear hK K
              refine norm_ (a' := ?_) ?_ ?_
              rotate_left
              · show Act.put _ (some 31) _ = _
                simp only [Act.put, List.setIfInBounds_toArray, List.set_cons_zero, List.set_cons_succ, i64_w, i32_w]
                rfl
              exact norm_ (by simp only [putAll, Act.put, List.setIfInBounds_toArray, List.set_cons_zero, List.set_cons_succ]) (hCont (v167, v170) _ ⟨hHeld, (by (with_reducible repeat (first | apply Kd.R_alloc | apply Kd.R_drewN | apply Kd.R_drew)); exact Kd.R_mono HO168.out (fun _ hk => hk.2)), (by (with_reducible repeat (first | apply Kd.R_alloc | apply Kd.R_drewN | apply Kd.R_drew)); exact Kd.R_mono HO171.out (fun _ hk => hk.2)), (by (with_reducible repeat (first | refine blk_drewN ?_ _ | refine blk_drew ?_ | refine blk_alloc ?_ _)); exact BK159.out), (by repeat (first | (with_reducible first | exact HB.out | apply below_alloc | apply pw_below_drewN | apply below_drew1 | refine below_set ?_ GE159.out) | exact HB.out))⟩)
          rintro ⟨v167, v170⟩ w26 ⟨hS_, h0_, h1_, h2_, h3_⟩
          have n0_ : Aside0 (Kd.R (Kd.int .u8) 5 w26 w.heap.size (fun k_ => some k_ ≠ (v170 : Value).ownBlock) v167 y166) := ⟨h0_⟩
          have n1_ : Aside0 (Kd.R (Kd.int .u8) 5 w26 w.heap.size (fun k_ => some k_ ≠ (v167 : Value).ownBlock) v170 y169) := ⟨h1_⟩
          have n2_ : Aside0 (w26.heap[gb159]? = some (.cells #[.int .i64 a0_0, .bool a0_1, .int .i64 a0_2, .int .i64 a0_3, .int .i64 a0_4, .int .i64 a0_5] 23 (0, 0))) := ⟨h2_⟩
          have n3_ : Aside0 (Below w.heap.size w w26) := ⟨h3_⟩
          clear BK159
          clear HB
          clear h0_ h1_ h2_ h3_
          have HO168 := n0_
          have HO171 := n1_
          have BK159 := n2_
          have HB := n3_
          clear n0_ n1_ n2_ n3_
          have hHeld : w26.cell? ⟨gb159, 0, none⟩ = some (.int .i64 a0_0) ∧ w26.cell? ⟨gb159, 1, none⟩ = some (.bool a0_1) ∧ w26.cell? ⟨gb159, 2, none⟩ = some (.int .i64 a0_2) ∧ w26.cell? ⟨gb159, 3, none⟩ = some (.int .i64 a0_3) ∧ w26.cell? ⟨gb159, 4, none⟩ = some (.int .i64 a0_4) ∧ w26.cell? ⟨gb159, 5, none⟩ = some (.int .i64 a0_5) := hS_
          obtain ⟨Ao28, co28, eo28⟩ := Kd.R_slice HO171.out
          (first | subst eo28 | (injection eo28 with f1_ f2_ f3_; have f4_ := f1_.symm; have f5_ := f3_.symm; clear f1_ f2_ f3_; subst f4_; subst f5_))
          refine norm_ (a' := ?_) ?_ ?_
          rotate_left
          · simp only [putAll, Act.put, List.setIfInBounds_toArray, List.set_cons_zero, List.set_cons_succ]
            rfl
          refine one_ (i := 12) (N := some 43) #[true, true, true, true, true, true, true, true, true, true, true, true, true, false] rfl rfl (one_of HT_.out (by kernel_rfl)) (by decide) (fun K hK => ?_)
          refine Kd.R_append_rows_step (Kd.int .u8) (w0 := w) w.heap.size (by rfl) (.tmp 31) (.tmp 42) 44 5 (.int .u8 0) 1 rfl Tryd.underlying44 info5 rfl (by decide) (by omega) v167 y166 y169 _ _ _ (fun k_ => some k_ ≠ (.slice Ao28 y169.length co28 : Value).ownBlock) (fun _ => False) rfl rfl ?aO ?aR (fun _ _ h => h) (fun _ h => h.elim) ?aF ?aB ?aS ?aL ?_
          (case aR => repeat (first | exact (Kd.R_reads' HO171.out).2.2 | (with_reducible refine Kd.C_alloc ?_ _) | (with_reducible refine Kd.C_drewN ?_ _) | (with_reducible refine Kd.C_drew ?_)))
          (case aB => exact (by repeat (first | (with_reducible first | exact HB.out | apply below_alloc | apply pw_below_drewN | apply below_drew1 | refine below_set ?_ GE159.out) | exact HB.out)))
          (case aF => exact (fun k_ hk => Kd.fresh' (Kd.R_lt (by (with_reducible repeat (first | apply Kd.R_alloc | apply Kd.R_drewN | apply Kd.R_drew)); exact HO171.out)) k_ hk))
          (case aO => exact (by (with_reducible repeat (first | apply Kd.R_alloc | apply Kd.R_drewN | apply Kd.R_drew)); exact HO168.out))
          (case aS => exact (below_size (by repeat (first | (with_reducible first | exact HB.out | apply below_alloc | apply pw_below_drewN | apply below_drew1 | refine below_set ?_ GE159.out) | exact HB.out))))
          (case aL => have := LMc7.out; omega)
          intro v173 w27 ho hb hg hat
          rw [← Ny172.out] at ho
          have n0_ := Aside0.mk (blk_grown (g := gb159) (o := .cells #[.int .i64 a0_0, .bool a0_1, .int .i64 a0_2, .int .i64 a0_3, .int .i64 a0_4, .int .i64 a0_5] 23 (0, 0)) (by (with_reducible repeat (first | refine blk_drewN ?_ _ | refine blk_drew ?_ | refine blk_alloc ?_ _)); exact BK159.out) hg (Kd.R_ne HO168.out BK159.out (by decide)))
          have n1_ := Aside0.mk (Kd.R_after (ok := (fun _ => True)) (by (with_reducible repeat (first | apply Kd.R_alloc | apply Kd.R_drewN | apply Kd.R_drew)); exact Kd.R_mono HO171.out (fun _ hk => ⟨trivial, hk⟩)) hg hat)
          have n2_ := Aside0.mk (hb)
          have n3_ := Aside0.mk (ho)
          clear BK159
          clear HO171
          clear HB
          clear HO168
          have BK159 := n0_
          have HO171 := n1_
          have HB := n2_
          have HO174 := n3_
          clear n0_ n1_ n2_ n3_
          clear ho hb hg hat
          refine hK.out _ _ ⟨(blk_cell BK159.out 0).trans rfl, (blk_cell BK159.out 1).trans rfl, (blk_cell BK159.out 2).trans rfl, (blk_cell BK159.out 3).trans rfl, (blk_cell BK159.out 4).trans rfl, (blk_cell BK159.out 5).trans rfl⟩ (fun hHeld => ?_)
          clear hK K
          refine norm_ (a' := ?_) ?_ ?_
          rotate_left
          · show Act.put _ (some 43) _ = _
            simp only [Act.put, List.setIfInBounds_toArray, List.set_cons_zero, List.set_cons_succ, i64_w, i32_w]
            rfl
          refine pure_ (i := 13) (N := some 10) (v := ?_) (a' := ?_) #[true, true, true, true, true, true, true, true, true, true, true, true, true, true] rfl rfl (any_of HT_.out (by kernel_rfl)) (fun _ _ _ h => h) (Or.inl ⟨by rfl, ?_⟩) ?_ ?_
          rotate_left
          · intro w'
            go_simp
            with_reducible rfl
          rotate_left
          · simp only [Act.put, List.setIfInBounds_toArray, List.set_cons_zero, List.set_cons_succ, i64_w, i32_w]
            rfl
          refine done_ (done_of HT_.out (by kernel_rfl)) ?_
          have hcz29_0 : w27.cell? ⟨gb159, 0, none⟩ = some (.int .i64 a0_0) := (blk_cell BK159.out 0).trans rfl
          have hcz29_1 : w27.cell? ⟨gb159, 1, none⟩ = some (.bool a0_1) := (blk_cell BK159.out 1).trans rfl
          have hcz29_2 : w27.cell? ⟨gb159, 2, none⟩ = some (.int .i64 a0_2) := (blk_cell BK159.out 2).trans rfl
          have hcz29_3 : w27.cell? ⟨gb159, 3, none⟩ = some (.int .i64 a0_3) := (blk_cell BK159.out 3).trans rfl
          have hcz29_4 : w27.cell? ⟨gb159, 4, none⟩ = some (.int .i64 a0_4) := (blk_cell BK159.out 4).trans rfl
          have hcz29_5 : w27.cell? ⟨gb159, 5, none⟩ = some (.int .i64 a0_5) := (blk_cell BK159.out 5).trans rfl
          have hfz29_0 := blk_frozen BK159.out 0
          have hfz29_1 := blk_frozen BK159.out 1
          have hfz29_2 := blk_frozen BK159.out 2
          have hfz29_3 := blk_frozen BK159.out 3
          have hfz29_4 := blk_frozen BK159.out 4
          have hfz29_5 := blk_frozen BK159.out 5
          obtain ⟨Ao30, co30, eo30⟩ := Kd.R_slice HO174.out
          subst eo30
          try go_wp2_with (first | ((with_reducible refine gate_callee (f := 57) rfl ?_); refine goesL_ (some 49) rfl rfl Tryd.func57 (by kernel_rfl) rfl #[.slice Ao30 y172.length co30, .int .i64 (Go.bits .or .i64 a0_4 t164), .int .i64 2] rfl (by (try simp only [List.map_toArray, List.map_cons, List.map_nil]); first | done | rfl | (simp only [List.length_drop, List.length_take]; rfl)) ?_; (with_reducible refine (slot_put_int.calls k (fun k_ => some k_ = (.slice Ao30 y172.length co30 : Value).ownBlock) (.slice Ao30 y172.length co30) y172 (Go.bits .or .i64 a0_4 t164) 2 t175 w _ ?side1 ?side2 A8.out).mono ?_); (case side1 => repeat (first | (with_reducible first | exact HB.out | apply below_alloc | apply pw_below_drewN | apply below_drew1 | refine below_set ?_ GE159.out) | exact HB.out)); (case side2 => exact Kd.R_tight rfl HO174.out); rintro e w31 ⟨v176, rfl, ho0, hb, hkp⟩; refine ⟨_, rfl, ?_⟩; have n0_ := Aside0.mk (blk_kept (by (with_reducible repeat (first | refine blk_drewN ?_ _ | refine blk_drew ?_ | refine blk_alloc ?_ _)); exact BK159.out) hkp (fun hs_ => (fun e_ => (Kd.R_ne HO174.out BK159.out (by decide)) e_) hs_)); have n1_ := Aside0.mk (Kd.R_mono (ok' := fun k_ => some k_ ≠ (v176 : Value).ownBlock) (Kd.R_keptB (HO171.out) hkp (fun k_ hk_ hs_ => (hk_.2) hs_)) (fun k_ hk_ => fun e_ => Or.elim (ho0.1 k_ e_.symm) (fun hs_ => hk_.2.1 hs_) (fun hn_ => Nat.not_le.2 hk_.2.2 hn_))); have n2_ := Aside0.mk (Kd.R_mono (ok' := fun k_ => some k_ ≠ (.slice Ao28 y169.length co28 : Value).ownBlock) ho0 (fun k_ hk_ => Or.elim hk_ (fun hs_ => fun e_ => (((HO171.out).1 k_ e_.symm).2) hs_) (fun hn_ => (Kd.fresh' (Kd.R_lt (by (with_reducible repeat (first | apply Kd.R_alloc | apply Kd.R_drewN | apply Kd.R_drew)); exact HO171.out)) k_ hn_)))); have n3_ := Aside0.mk (hb); clear BK159; clear HO171; clear HB; clear HO174; have BK159 := n0_; have HO171 := n1_; have HO177 := n2_; have HB := n3_; clear n0_ n1_ n2_ n3_; (try clear hb); (try clear hkp); (try clear ho0); have hcz32_0 : w31.cell? ⟨gb159, 0, none⟩ = some (.int .i64 a0_0) := (blk_cell BK159.out 0).trans rfl; have hcz32_1 : w31.cell? ⟨gb159, 1, none⟩ = some (.bool a0_1) := (blk_cell BK159.out 1).trans rfl; have hcz32_2 : w31.cell? ⟨gb159, 2, none⟩ = some (.int .i64 a0_2) := (blk_cell BK159.out 2).trans rfl; have hcz32_3 : w31.cell? ⟨gb159, 3, none⟩ = some (.int .i64 a0_3) := (blk_cell BK159.out 3).trans rfl; have hcz32_4 : w31.cell? ⟨gb159, 4, none⟩ = some (.int .i64 a0_4) := (blk_cell BK159.out 4).trans rfl; have hcz32_5 : w31.cell? ⟨gb159, 5, none⟩ = some (.int .i64 a0_5) := (blk_cell BK159.out 5).trans rfl; have hfz32_0 := blk_frozen BK159.out 0; have hfz32_1 := blk_frozen BK159.out 1; have hfz32_2 := blk_frozen BK159.out 2; have hfz32_3 := blk_frozen BK159.out 3; have hfz32_4 := blk_frozen BK159.out 4; have hfz32_5 := blk_frozen BK159.out 5; obtain ⟨Ao33, co33, eo33⟩ := Kd.R_slice HO177.out; subst eo33) | ((with_reducible refine gate_callee (f := 58) rfl ?_); refine goesL_ (some 55) rfl rfl Tryd.func58 (by kernel_rfl) rfl #[.slice Ao33 t175.length co33, .int .i64 (Go.bits .or .i64 a0_5 t165), .int .i64 4] rfl (by (try simp only [List.map_toArray, List.map_cons, List.map_nil]); first | done | rfl | (simp only [List.length_drop, List.length_take]; rfl)) ?_; (with_reducible refine (slot_put_int64.calls k (fun k_ => some k_ = (.slice Ao33 t175.length co33 : Value).ownBlock) (.slice Ao33 t175.length co33) t175 (Go.bits .or .i64 a0_5 t165) 4 t178 w _ ?side1 ?side2 A9.out).mono ?_); (case side1 => repeat (first | (with_reducible first | exact HB.out | apply below_alloc | apply pw_below_drewN | apply below_drew1 | refine below_set ?_ GE159.out) | exact HB.out)); (case side2 => exact Kd.R_tight rfl HO177.out); rintro e w34 ⟨v179, rfl, ho0, hb, hkp⟩; refine ⟨_, rfl, ?_⟩; have n0_ := Aside0.mk (blk_kept (by (with_reducible repeat (first | refine blk_drewN ?_ _ | refine blk_drew ?_ | refine blk_alloc ?_ _)); exact BK159.out) hkp (fun hs_ => (fun e_ => (Kd.R_ne HO177.out BK159.out (by decide)) e_) hs_)); have n1_ := Aside0.mk (Kd.R_mono (ok' := fun k_ => some k_ ≠ (v179 : Value).ownBlock) (Kd.R_keptB (HO171.out) hkp (fun k_ hk_ hs_ => (hk_) hs_)) (fun k_ hk_ => fun e_ => Or.elim (ho0.1 k_ e_.symm) (fun hs_ => hk_.2.1 hs_) (fun hn_ => Nat.not_le.2 hk_.2.2 hn_))); have n2_ := Aside0.mk (Kd.R_mono (ok' := fun k_ => some k_ ≠ (.slice Ao28 y169.length co28 : Value).ownBlock) ho0 (fun k_ hk_ => Or.elim hk_ (fun hs_ => fun e_ => (((HO171.out).1 k_ e_.symm)) hs_) (fun hn_ => (Kd.fresh' (Kd.R_lt (by (with_reducible repeat (first | apply Kd.R_alloc | apply Kd.R_drewN | apply Kd.R_drew)); exact HO171.out)) k_ hn_)))); have n3_ := Aside0.mk (hb); clear BK159; clear HO171; clear HB; clear HO177; have BK159 := n0_; have HO171 := n1_; have HO180 := n2_; have HB := n3_; clear n0_ n1_ n2_ n3_; (try clear hb); (try clear hkp); (try clear ho0); have hcz35_0 : w34.cell? ⟨gb159, 0, none⟩ = some (.int .i64 a0_0) := (blk_cell BK159.out 0).trans rfl; have hcz35_1 : w34.cell? ⟨gb159, 1, none⟩ = some (.bool a0_1) := (blk_cell BK159.out 1).trans rfl; have hcz35_2 : w34.cell? ⟨gb159, 2, none⟩ = some (.int .i64 a0_2) := (blk_cell BK159.out 2).trans rfl; have hcz35_3 : w34.cell? ⟨gb159, 3, none⟩ = some (.int .i64 a0_3) := (blk_cell BK159.out 3).trans rfl; have hcz35_4 : w34.cell? ⟨gb159, 4, none⟩ = some (.int .i64 a0_4) := (blk_cell BK159.out 4).trans rfl; have hcz35_5 : w34.cell? ⟨gb159, 5, none⟩ = some (.int .i64 a0_5) := (blk_cell BK159.out 5).trans rfl; have hfz35_0 := blk_frozen BK159.out 0; have hfz35_1 := blk_frozen BK159.out 1; have hfz35_2 := blk_frozen BK159.out 2; have hfz35_3 := blk_frozen BK159.out 3; have hfz35_4 := blk_frozen BK159.out 4; have hfz35_5 := blk_frozen BK159.out 5) | ((with_reducible refine gate_callee (f := 59) rfl ?_); refine goesL_ (some 58) rfl rfl Tryd.func59 (by kernel_rfl) rfl #[.int .i64 a0_0] rfl (by (try simp only [List.map_toArray, List.map_cons, List.map_nil]); first | done | rfl | (simp only [List.length_drop, List.length_take]; rfl)) ?_; (with_reducible refine (insn_Slots.calls a0_0 t181 _ A10.out (G_at hG (by repeat (first | (with_reducible first | exact HB.out | apply below_alloc | apply pw_below_drewN | apply below_drew1 | refine below_set ?_ GE159.out) | exact HB.out)))).mono ?_); rintro e w36 ⟨rfl, hb⟩; refine ⟨_, rfl, ?_⟩; have n0_ := Aside0.mk (Kd.R_below (by (with_reducible repeat (first | apply Kd.R_alloc | apply Kd.R_drewN | apply Kd.R_drew)); exact HO171.out) hb); have n1_ := Aside0.mk (Kd.R_below (by (with_reducible repeat (first | apply Kd.R_alloc | apply Kd.R_drewN | apply Kd.R_drew)); exact HO180.out) hb); have n2_ := Aside0.mk (blk_below (g := gb159) (o := .cells #[.int .i64 a0_0, .bool a0_1, .int .i64 a0_2, .int .i64 a0_3, .int .i64 a0_4, .int .i64 a0_5] 23 (0, 0)) (by (with_reducible repeat (first | refine blk_drewN ?_ _ | refine blk_drew ?_ | refine blk_alloc ?_ _)); exact BK159.out) hb); have n3_ := Aside0.mk (below_step (by repeat (first | (with_reducible first | exact HB.out | apply below_alloc | apply pw_below_drewN | apply below_drew1 | refine below_set ?_ GE159.out) | exact HB.out)) hb); clear HO171; clear HO180; clear BK159; clear HB; have HO171 := n0_; have HO180 := n1_; have BK159 := n2_; have HB := n3_; clear n0_ n1_ n2_ n3_; (try clear hb); (try clear hb2); (try clear hk); (try clear hi); obtain ⟨Ao37, co37, eo37⟩ := Kd.R_slice HO180.out; subst eo37) | ((with_reducible refine gate_callee (f := 57) rfl ?_); refine goesL_ (some 61) rfl rfl Tryd.func57 (by kernel_rfl) rfl #[.slice Ao37 t178.length co37, .int .i64 0, .int .i64 4] rfl (by (try simp only [List.map_toArray, List.map_cons, List.map_nil]); first | done | rfl | (simp only [List.length_drop, List.length_take]; rfl)) ?_; (with_reducible refine (slot_put_int.calls k (fun k_ => some k_ = (.slice Ao37 t178.length co37 : Value).ownBlock) (.slice Ao37 t178.length co37) t178 0 4 t182 w _ ?side1 ?side2 A12.out).mono ?_); (case side1 => repeat (first | (with_reducible first | exact HB.out | apply below_alloc | apply pw_below_drewN | apply below_drew1 | refine below_set ?_ GE159.out) | exact HB.out)); (case side2 => exact Kd.R_tight rfl HO180.out); rintro e w38 ⟨v183, rfl, ho0, hb, hkp⟩; refine ⟨_, rfl, ?_⟩; have n0_ := Aside0.mk (blk_kept (by (with_reducible repeat (first | refine blk_drewN ?_ _ | refine blk_drew ?_ | refine blk_alloc ?_ _)); exact BK159.out) hkp (fun hs_ => (fun e_ => (Kd.R_ne HO180.out BK159.out (by decide)) e_) hs_)); have n1_ := Aside0.mk (Kd.R_mono (ok' := fun k_ => some k_ ≠ (v183 : Value).ownBlock) (Kd.R_keptB (HO171.out) hkp (fun k_ hk_ hs_ => (hk_) hs_)) (fun k_ hk_ => fun e_ => Or.elim (ho0.1 k_ e_.symm) (fun hs_ => hk_.2.1 hs_) (fun hn_ => Nat.not_le.2 hk_.2.2 hn_))); have n2_ := Aside0.mk (Kd.R_mono (ok' := fun k_ => some k_ ≠ (.slice Ao28 y169.length co28 : Value).ownBlock) ho0 (fun k_ hk_ => Or.elim hk_ (fun hs_ => fun e_ => (((HO171.out).1 k_ e_.symm)) hs_) (fun hn_ => (Kd.fresh' (Kd.R_lt (by (with_reducible repeat (first | apply Kd.R_alloc | apply Kd.R_drewN | apply Kd.R_drew)); exact HO171.out)) k_ hn_)))); have n3_ := Aside0.mk (hb); clear BK159; clear HO171; clear HB; clear HO180; have BK159 := n0_; have HO171 := n1_; have HO184 := n2_; have HB := n3_; clear n0_ n1_ n2_ n3_; (try clear hb); (try clear hkp); (try clear ho0); have hcz39_0 : w38.cell? ⟨gb159, 0, none⟩ = some (.int .i64 a0_0) := (blk_cell BK159.out 0).trans rfl; have hcz39_1 : w38.cell? ⟨gb159, 1, none⟩ = some (.bool a0_1) := (blk_cell BK159.out 1).trans rfl; have hcz39_2 : w38.cell? ⟨gb159, 2, none⟩ = some (.int .i64 a0_2) := (blk_cell BK159.out 2).trans rfl; have hcz39_3 : w38.cell? ⟨gb159, 3, none⟩ = some (.int .i64 a0_3) := (blk_cell BK159.out 3).trans rfl; have hcz39_4 : w38.cell? ⟨gb159, 4, none⟩ = some (.int .i64 a0_4) := (blk_cell BK159.out 4).trans rfl; have hcz39_5 : w38.cell? ⟨gb159, 5, none⟩ = some (.int .i64 a0_5) := (blk_cell BK159.out 5).trans rfl; have hfz39_0 := blk_frozen BK159.out 0; have hfz39_1 := blk_frozen BK159.out 1; have hfz39_2 := blk_frozen BK159.out 2; have hfz39_3 := blk_frozen BK159.out 3; have hfz39_4 := blk_frozen BK159.out 4; have hfz39_5 := blk_frozen BK159.out 5; obtain ⟨Ao40, co40, eo40⟩ := Kd.R_slice HO184.out; subst eo40) | ((with_reducible refine gate_callee (f := 58) rfl ?_); refine goesL_ (some 66) rfl rfl Tryd.func58 (by kernel_rfl) rfl #[.slice Ao40 t182.length co40, .int .i64 (a0_5 / 4294967296), .int .i64 4] rfl (by (try simp only [List.map_toArray, List.map_cons, List.map_nil]); first | done | rfl | (simp only [List.length_drop, List.length_take]; rfl)) ?_; (with_reducible refine (slot_put_int64.calls k (fun k_ => some k_ = (.slice Ao40 t182.length co40 : Value).ownBlock) (.slice Ao40 t182.length co40) t182 (a0_5 / 4294967296) 4 t185 w _ ?side1 ?side2 A13.out).mono ?_); (case side1 => repeat (first | (with_reducible first | exact HB.out | apply below_alloc | apply pw_below_drewN | apply below_drew1 | refine below_set ?_ GE159.out) | exact HB.out)); (case side2 => exact Kd.R_tight rfl HO184.out); rintro e w41 ⟨v186, rfl, ho0, hb, hkp⟩; refine ⟨_, rfl, ?_⟩; have n0_ := Aside0.mk (blk_kept (by (with_reducible repeat (first | refine blk_drewN ?_ _ | refine blk_drew ?_ | refine blk_alloc ?_ _)); exact BK159.out) hkp (fun hs_ => (fun e_ => (Kd.R_ne HO184.out BK159.out (by decide)) e_) hs_)); have n1_ := Aside0.mk (Kd.R_mono (ok' := fun k_ => some k_ ≠ (v186 : Value).ownBlock) (Kd.R_keptB (HO171.out) hkp (fun k_ hk_ hs_ => (hk_) hs_)) (fun k_ hk_ => fun e_ => Or.elim (ho0.1 k_ e_.symm) (fun hs_ => hk_.2.1 hs_) (fun hn_ => Nat.not_le.2 hk_.2.2 hn_))); have n2_ := Aside0.mk (Kd.R_mono (ok' := fun k_ => some k_ ≠ (.slice Ao28 y169.length co28 : Value).ownBlock) ho0 (fun k_ hk_ => Or.elim hk_ (fun hs_ => fun e_ => (((HO171.out).1 k_ e_.symm)) hs_) (fun hn_ => (Kd.fresh' (Kd.R_lt (by (with_reducible repeat (first | apply Kd.R_alloc | apply Kd.R_drewN | apply Kd.R_drew)); exact HO171.out)) k_ hn_)))); have n3_ := Aside0.mk (hb); clear BK159; clear HO171; clear HB; clear HO184; have BK159 := n0_; have HO171 := n1_; have HO187 := n2_; have HB := n3_; clear n0_ n1_ n2_ n3_; (try clear hb); (try clear hkp); (try clear ho0)))
          go_ret2
          exact ⟨_, by first | rfl | (simp [errW_none, errW_some] <;> rfl) | (simp [*, errW_none, errW_some] <;> rfl), by (with_reducible repeat (first | apply Kd.R_alloc | apply Kd.R_drewN | apply Kd.R_drew)); exact Kd.R_mono HO187.out (fun _ hk => trivial), by repeat (first | (with_reducible first | exact HB.out | apply below_alloc | apply pw_below_drewN | apply below_drew1 | refine below_set ?_ GE159.out) | exact HB.out)⟩
        · rw [if_neg c11] at H
          have c11b0 : (t181 == 2) = false := beq_eq_false_iff_ne.mpr c11
          have c11b1 : (t181 != 2) = true := bne_iff_ne.mpr c11
          simp only [Option.some.injEq, Prod.mk.injEq] at H
          obtain ⟨rfl, rfl⟩ := H
          go_enter Tryd.func27, Tryd.ntmps27
          try go_wp2_with (first | ((with_reducible refine gate_dst (N := 1) rfl ?_); refine box_event ?hg (N := 1) ?hd (cs := #[.int .i64 a0_0, .bool a0_1, .int .i64 a0_2, .int .i64 a0_3, .int .i64 a0_4, .int .i64 a0_5]) (t := 23) ?hr ?_; (case hd => rfl); (case hg => rfl); (case hr => first | (go_simp; done) | (go_simp; rfl)); intro gb159 hg w42 hbox hb; have n0_ := Aside0.mk (below_step (by repeat (first | (with_reducible first | exact HB.out | apply below_alloc | apply pw_below_drewN | apply below_drew1) | exact HB.out)) hb); have n1_ := Aside0.mk (hbox); have n2_ := Aside0.mk ((by rw [hg]; exact (below_size (by repeat (first | (with_reducible first | exact HB.out | apply below_alloc | apply pw_below_drewN | apply below_drew1) | exact HB.out))) : w.heap.size ≤ gb159)); have n3_ := Aside0.mk ((by rw [hg]; exact (below_size (by repeat (first | (with_reducible first | exact HB.out | apply below_alloc | apply pw_below_drewN | apply below_drew1) | exact HB.out))) : w.heap.size ≤ gb159)); clear HB; have HB := n0_; have BK159 := n1_; have GW159 := n2_; have GE159 := n3_; clear n0_ n1_ n2_ n3_; clear hb hbox hg; have hcz43_0 : w42.cell? ⟨gb159, 0, none⟩ = some (.int .i64 a0_0) := (blk_cell BK159.out 0).trans rfl; have hcz43_1 : w42.cell? ⟨gb159, 1, none⟩ = some (.bool a0_1) := (blk_cell BK159.out 1).trans rfl; have hcz43_2 : w42.cell? ⟨gb159, 2, none⟩ = some (.int .i64 a0_2) := (blk_cell BK159.out 2).trans rfl; have hcz43_3 : w42.cell? ⟨gb159, 3, none⟩ = some (.int .i64 a0_3) := (blk_cell BK159.out 3).trans rfl; have hcz43_4 : w42.cell? ⟨gb159, 4, none⟩ = some (.int .i64 a0_4) := (blk_cell BK159.out 4).trans rfl; have hcz43_5 : w42.cell? ⟨gb159, 5, none⟩ = some (.int .i64 a0_5) := (blk_cell BK159.out 5).trans rfl; have hfz43_0 := blk_frozen BK159.out 0; have hfz43_1 := blk_frozen BK159.out 1; have hfz43_2 := blk_frozen BK159.out 2; have hfz43_3 := blk_frozen BK159.out 3; have hfz43_4 := blk_frozen BK159.out 4; have hfz43_5 := blk_frozen BK159.out 5) | ((with_reducible refine gate_callee (f := 55) rfl ?_); refine goesL_ (some 12) rfl rfl Tryd.func55 (by kernel_rfl) rfl #[.agg #[.int .i64 a0_0, .bool a0_1, .int .i64 a0_2, .int .i64 a0_3, .int .i64 a0_4, .int .i64 a0_5]] rfl (by (try simp only [List.map_toArray, List.map_cons, List.map_nil]); first | done | rfl | (simp only [List.length_drop, List.length_take]; rfl)) ?_; (with_reducible refine (insn_Check.calls a0_0 a0_1 a0_2 a0_3 a0_4 a0_5 t160 _ A2.out (G_at hG (by repeat (first | (with_reducible first | exact HB.out | apply below_alloc | apply pw_below_drewN | apply below_drew1 | refine below_set ?_ GE159.out) | exact HB.out)))).mono ?_); rintro e w44 ⟨rfl, hb⟩; refine ⟨_, rfl, ?_⟩; have n0_ := Aside0.mk (blk_below (g := gb159) (o := .cells #[.int .i64 a0_0, .bool a0_1, .int .i64 a0_2, .int .i64 a0_3, .int .i64 a0_4, .int .i64 a0_5] 23 (0, 0)) (by (with_reducible repeat (first | refine blk_drewN ?_ _ | refine blk_drew ?_ | refine blk_alloc ?_ _)); exact BK159.out) hb); have n1_ := Aside0.mk (below_step (by repeat (first | (with_reducible first | exact HB.out | apply below_alloc | apply pw_below_drewN | apply below_drew1 | refine below_set ?_ GE159.out) | exact HB.out)) hb); clear BK159; clear HB; have BK159 := n0_; have HB := n1_; clear n0_ n1_; (try clear hb); (try clear hb2); (try clear hk); (try clear hi); have hcz45_0 : w44.cell? ⟨gb159, 0, none⟩ = some (.int .i64 a0_0) := (blk_cell BK159.out 0).trans rfl; have hcz45_1 : w44.cell? ⟨gb159, 1, none⟩ = some (.bool a0_1) := (blk_cell BK159.out 1).trans rfl; have hcz45_2 : w44.cell? ⟨gb159, 2, none⟩ = some (.int .i64 a0_2) := (blk_cell BK159.out 2).trans rfl; have hcz45_3 : w44.cell? ⟨gb159, 3, none⟩ = some (.int .i64 a0_3) := (blk_cell BK159.out 3).trans rfl; have hcz45_4 : w44.cell? ⟨gb159, 4, none⟩ = some (.int .i64 a0_4) := (blk_cell BK159.out 4).trans rfl; have hcz45_5 : w44.cell? ⟨gb159, 5, none⟩ = some (.int .i64 a0_5) := (blk_cell BK159.out 5).trans rfl; have hfz45_0 := blk_frozen BK159.out 0; have hfz45_1 := blk_frozen BK159.out 1; have hfz45_2 := blk_frozen BK159.out 2; have hfz45_3 := blk_frozen BK159.out 3; have hfz45_4 := blk_frozen BK159.out 4; have hfz45_5 := blk_frozen BK159.out 5) | ((with_reducible refine gate_callee (f := 56) rfl ?_); refine goesL_ (some 21) rfl rfl Tryd.func56 (by kernel_rfl) rfl #[.int .i64 a0_0, .bool a0_1] rfl (by (try simp only [List.map_toArray, List.map_cons, List.map_nil]); first | done | rfl | (simp only [List.length_drop, List.length_take]; rfl)) ?_; (with_reducible refine (ops_Code.calls a0_0 a0_1 t161 t162 _ A4.out (G_at hG (by repeat (first | (with_reducible first | exact HB.out | apply below_alloc | apply pw_below_drewN | apply below_drew1 | refine below_set ?_ GE159.out) | exact HB.out)))).mono ?_); rintro e w46 ⟨rfl, hb⟩; refine ⟨_, rfl, ?_⟩; have n0_ := Aside0.mk (blk_below (g := gb159) (o := .cells #[.int .i64 a0_0, .bool a0_1, .int .i64 a0_2, .int .i64 a0_3, .int .i64 a0_4, .int .i64 a0_5] 23 (0, 0)) (by (with_reducible repeat (first | refine blk_drewN ?_ _ | refine blk_drew ?_ | refine blk_alloc ?_ _)); exact BK159.out) hb); have n1_ := Aside0.mk (below_step (by repeat (first | (with_reducible first | exact HB.out | apply below_alloc | apply pw_below_drewN | apply below_drew1 | refine below_set ?_ GE159.out) | exact HB.out)) hb); clear BK159; clear HB; have BK159 := n0_; have HB := n1_; clear n0_ n1_; (try clear hb); (try clear hb2); (try clear hk); (try clear hi); have hcz47_0 : w46.cell? ⟨gb159, 0, none⟩ = some (.int .i64 a0_0) := (blk_cell BK159.out 0).trans rfl; have hcz47_1 : w46.cell? ⟨gb159, 1, none⟩ = some (.bool a0_1) := (blk_cell BK159.out 1).trans rfl; have hcz47_2 : w46.cell? ⟨gb159, 2, none⟩ = some (.int .i64 a0_2) := (blk_cell BK159.out 2).trans rfl; have hcz47_3 : w46.cell? ⟨gb159, 3, none⟩ = some (.int .i64 a0_3) := (blk_cell BK159.out 3).trans rfl; have hcz47_4 : w46.cell? ⟨gb159, 4, none⟩ = some (.int .i64 a0_4) := (blk_cell BK159.out 4).trans rfl; have hcz47_5 : w46.cell? ⟨gb159, 5, none⟩ = some (.int .i64 a0_5) := (blk_cell BK159.out 5).trans rfl; have hfz47_0 := blk_frozen BK159.out 0; have hfz47_1 := blk_frozen BK159.out 1; have hfz47_2 := blk_frozen BK159.out 2; have hfz47_3 := blk_frozen BK159.out 3; have hfz47_4 := blk_frozen BK159.out 4; have hfz47_5 := blk_frozen BK159.out 5) | ((with_reducible refine gate_callee (f := 44) rfl ?_); refine goesL_ (some 27) rfl rfl Tryd.func44 (by kernel_rfl) rfl #[.int .i64 a0_0] rfl (by (try simp only [List.map_toArray, List.map_cons, List.map_nil]); first | done | rfl | (simp only [List.length_drop, List.length_take]; rfl)) ?_; (with_reducible refine (ops_Fixed.calls a0_0 t163 t164 t165 _ A5.out (G_at hG (by repeat (first | (with_reducible first | exact HB.out | apply below_alloc | apply pw_below_drewN | apply below_drew1 | refine below_set ?_ GE159.out) | exact HB.out)))).mono ?_); rintro e w48 ⟨rfl, hb⟩; refine ⟨_, rfl, ?_⟩; have n0_ := Aside0.mk (blk_below (g := gb159) (o := .cells #[.int .i64 a0_0, .bool a0_1, .int .i64 a0_2, .int .i64 a0_3, .int .i64 a0_4, .int .i64 a0_5] 23 (0, 0)) (by (with_reducible repeat (first | refine blk_drewN ?_ _ | refine blk_drew ?_ | refine blk_alloc ?_ _)); exact BK159.out) hb); have n1_ := Aside0.mk (below_step (by repeat (first | (with_reducible first | exact HB.out | apply below_alloc | apply pw_below_drewN | apply below_drew1 | refine below_set ?_ GE159.out) | exact HB.out)) hb); clear BK159; clear HB; have BK159 := n0_; have HB := n1_; clear n0_ n1_; (try clear hb); (try clear hb2); (try clear hk); (try clear hi)))
          have n0_ := Aside0.mk (blk_drew BK159.out)
          have n1_ := Aside0.mk (below_drew1 HB.out)
          clear BK159
          clear HB
          have BK159 := n0_
          have HB := n1_
          clear n0_ n1_
          refine start_ (n := 14) (S := fun w' => w'.cell? ⟨gb159, 0, none⟩ = some (.int .i64 a0_0) ∧ w'.cell? ⟨gb159, 1, none⟩ = some (.bool a0_1) ∧ w'.cell? ⟨gb159, 2, none⟩ = some (.int .i64 a0_2) ∧ w'.cell? ⟨gb159, 3, none⟩ = some (.int .i64 a0_3) ∧ w'.cell? ⟨gb159, 4, none⟩ = some (.int .i64 a0_4) ∧ w'.cell? ⟨gb159, 5, none⟩ = some (.int .i64 a0_5)) (ds := []) #[false, false, false, false, false, false, false, false, false, false, false, false, false, false] (by kernel_rfl) rfl rfl ⟨(blk_cell BK159.out 0).trans rfl, (blk_cell BK159.out 1).trans rfl, (blk_cell BK159.out 2).trans rfl, (blk_cell BK159.out 3).trans rfl, (blk_cell BK159.out 4).trans rfl, (blk_cell BK159.out 5).trans rfl⟩ (fun hHeld => ?_); refine with_tabW slot_Encode.tab6 slot_Encode.bits6 (fun HT_ HW_ => ?_)
          generalize w48.drew = w49 at BK159 HB hHeld ⊢
          refine pure_ (i := 1) (N := some 32) (v := ?_) (a' := ?_) #[false, true, false, false, false, false, false, false, false, false, false, false, false, false] rfl rfl (any_of HT_.out (by kernel_rfl)) (fun _ _ _ h => h) (Or.inl ⟨by rfl, ?_⟩) ?_ ?_
          rotate_left
          · intro w'
            go_simp
            with_reducible rfl
          rotate_left
          · simp only [Act.put, List.setIfInBounds_toArray, List.set_cons_zero, List.set_cons_succ, i64_w, i32_w]
            rfl
          refine pure_ (i := 2) (N := some 33) (v := ?_) (a' := ?_) #[false, true, true, false, false, false, false, false, false, false, false, false, false, false] rfl rfl (any_of HT_.out (by kernel_rfl)) (fun _ _ _ h => h) (Or.inl ⟨by rfl, ?_⟩) ?_ ?_
          rotate_left
          · intro w'
            go_simp
            with_reducible rfl
          rotate_left
          · simp only [Act.put, List.setIfInBounds_toArray, List.set_cons_zero, List.set_cons_succ, i64_w, i32_w]
            rfl
          refine pure_ (i := 4) (N := some 35) (v := ?_) (a' := ?_) #[false, true, true, false, true, false, false, false, false, false, false, false, false, false] rfl rfl (any_of HT_.out (by kernel_rfl)) (fun _ _ _ h => h) (Or.inl ⟨by rfl, ?_⟩) ?_ ?_
          rotate_left
          · intro w'
            go_simp
            with_reducible rfl
          rotate_left
          · simp only [Act.put, List.setIfInBounds_toArray, List.set_cons_zero, List.set_cons_succ, i64_w, i32_w]
            rfl
          refine pure_ (i := 7) (N := some 38) (v := ?_) (a' := ?_) #[false, true, true, false, true, false, false, true, false, false, false, false, false, false] rfl rfl (any_of HT_.out (by kernel_rfl)) (fun _ _ _ h => h) (Or.inl ⟨by rfl, ?_⟩) ?_ ?_
          rotate_left
          · intro w'
            go_simp
            with_reducible rfl
          rotate_left
          · simp only [Act.put, List.setIfInBounds_toArray, List.set_cons_zero, List.set_cons_succ, i64_w, i32_w]
            rfl
          refine take_ (i := 3) (N := some 34) (v := ?_) (a' := ?_) #[false, true, true, true, true, false, false, true, false, false, false, false, false, false] rfl rfl (take_ofW HT_.out HW_.out (by kernel_rfl)) (fun _ _ _ h => h) (Or.inl ⟨by rfl, ?_⟩) hHeld ?_ ?_
          rotate_left
          · rintro w' ⟨s0, s1, s2, s3, s4, s5⟩
            go_simp
            with_reducible rfl
          rotate_left
          · simp only [Act.put, List.setIfInBounds_toArray, List.set_cons_zero, List.set_cons_succ, i64_w, i32_w]
            rfl
          refine pure_ (i := 5) (N := some 36) (v := ?_) (a' := ?_) #[false, true, true, true, true, true, false, true, false, false, false, false, false, false] rfl rfl (any_of HT_.out (by kernel_rfl)) (fun _ _ _ h => h) (Or.inl ⟨by rfl, ?_⟩) ?_ ?_
          rotate_left
          · intro w'
            go_simp
            with_reducible rfl
          rotate_left
          · simp only [Act.put, List.setIfInBounds_toArray, List.set_cons_zero, List.set_cons_succ, i64_w, i32_w]
            rfl
          refine pure_ (i := 6) (N := some 37) (v := ?_) (a' := ?_) #[false, true, true, true, true, true, true, true, false, false, false, false, false, false] rfl rfl (any_of HT_.out (by kernel_rfl)) (fun _ _ _ h => h) (Or.inl ⟨by rfl, ?_⟩) ?_ ?_
          rotate_left
          · intro w'
            go_simp
            with_reducible rfl
          rotate_left
          · simp only [Act.put, List.setIfInBounds_toArray, List.set_cons_zero, List.set_cons_succ, i64_w, i32_w]
            rfl
          refine take_ (i := 8) (N := some 39) (v := ?_) (a' := ?_) #[false, true, true, true, true, true, true, true, true, false, false, false, false, false] rfl rfl (take_ofW HT_.out HW_.out (by kernel_rfl)) (fun _ _ _ h => h) (Or.inl ⟨by rfl, ?_⟩) hHeld ?_ ?_
          rotate_left
          · rintro w' ⟨s0, s1, s2, s3, s4, s5⟩
            go_simp
            with_reducible rfl
          rotate_left
          · simp only [Act.put, List.setIfInBounds_toArray, List.set_cons_zero, List.set_cons_succ, i64_w, i32_w]
            rfl
          refine pure_ (i := 9) (N := some 40) (v := ?_) (a' := ?_) #[false, true, true, true, true, true, true, true, true, true, false, false, false, false] rfl rfl (any_of HT_.out (by kernel_rfl)) (fun _ _ _ h => h) (Or.inl ⟨by rfl, ?_⟩) ?_ ?_
          rotate_left
          · intro w'
            go_simp
            with_reducible rfl
          rotate_left
          · simp only [Act.put, List.setIfInBounds_toArray, List.set_cons_zero, List.set_cons_succ, i64_w, i32_w]
            rfl
          refine pure_ (i := 10) (N := some 41) (v := ?_) (a' := ?_) #[false, true, true, true, true, true, true, true, true, true, true, false, false, false] rfl rfl (any_of HT_.out (by kernel_rfl)) (fun _ _ _ h => h) (Or.inl ⟨by rfl, ?_⟩) ?_ ?_
          rotate_left
          · intro w'
            go_simp
            with_reducible rfl
          rotate_left
          · simp only [Act.put, List.setIfInBounds_toArray, List.set_cons_zero, List.set_cons_succ, i64_w, i32_w]
            rfl
          refine join_ (σ := Value × Value) 2 #[true, true, true, true, true, true, true, true, true, true, true, true, false, false] (fun s_ => [(31, s_.1), (42, s_.2)]) (fun s_ w' => (w'.cell? ⟨gb159, 0, none⟩ = some (.int .i64 a0_0) ∧ w'.cell? ⟨gb159, 1, none⟩ = some (.bool a0_1) ∧ w'.cell? ⟨gb159, 2, none⟩ = some (.int .i64 a0_2) ∧ w'.cell? ⟨gb159, 3, none⟩ = some (.int .i64 a0_3) ∧ w'.cell? ⟨gb159, 4, none⟩ = some (.int .i64 a0_4) ∧ w'.cell? ⟨gb159, 5, none⟩ = some (.int .i64 a0_5)) ∧ (Kd.R (Kd.int .u8) 5 w' w.heap.size (fun k_ => some k_ ≠ (s_.2 : Value).ownBlock) s_.1 y166) ∧ (Kd.R (Kd.int .u8) 5 w' w.heap.size (fun k_ => some k_ ≠ (s_.1 : Value).ownBlock) s_.2 y169) ∧ (w'.heap[gb159]? = some (.cells #[.int .i64 a0_0, .bool a0_1, .int .i64 a0_2, .int .i64 a0_3, .int .i64 a0_4, .int .i64 a0_5] 23 (0, 0))) ∧ (Below w.heap.size w w')) ?_ ?_
          rotate_left
          · intro hCont
            refine two_ (i := 0) (j := 11) (Ni := some 31) (Nj := some 42) #[true, true, true, true, true, true, true, true, true, true, true, false, false, false] #[false, true, true, true, true, true, true, true, true, true, true, true, false, false] rfl rfl rfl rfl (two_of HT_.out (by kernel_rfl)) (by decide) (by decide) (fun K hK => ?_) (fun K hK => ?_)
            · skip
              refine Kd.R_make0_step (Kd.int .u8) _ 5 (by rfl) (N := 31) rfl 44 _ _ rfl 0 rfl rfl Tryd.underlying44 (.int .u8 0) 1 info5 rfl (by decide) (by omega) 0 (ok := fun _ => True) (okp := fun _ => True) rfl (fun _ hk => hk) trivial (by omega) (by omega) (Below.refl _ _) (Nat.le_refl _) ?_
              intro v167 w50 ho51 hb hg_ hnew_
              clear hg_ hnew_
              (first | rw [← Ny166.out] at ho51 | (simp only [Int.reduceToNat] at ho51; rw [← Ny166.out] at ho51))
              have n0_ := Aside0.mk (Kd.R_lower ho51 (below_size (by repeat (first | (with_reducible first | exact HB.out | apply below_alloc | apply pw_below_drewN | apply below_drew1 | refine below_set ?_ GE159.out) | exact HB.out))))
              have n1_ := Aside0.mk (blk_below (g := gb159) (o := .cells #[.int .i64 a0_0, .bool a0_1, .int .i64 a0_2, .int .i64 a0_3, .int .i64 a0_4, .int .i64 a0_5] 23 (0, 0)) (by (with_reducible repeat (first | refine blk_drewN ?_ _ | refine blk_drew ?_ | refine blk_alloc ?_ _)); exact BK159.out) hb)
              have n2_ := Aside0.mk (below_step (by repeat (first | (with_reducible first | exact HB.out | apply below_alloc | apply pw_below_drewN | apply below_drew1 | refine below_set ?_ GE159.out) | exact HB.out)) hb)
              clear BK159
              clear HB
              have HO168 := n0_
              have BK159 := n1_
              have HB := n2_
              clear n0_ n1_ n2_
              clear hb ho51
              refine hK.out _ _ ⟨(blk_cell BK159.out 0).trans rfl, (blk_cell BK159.out 1).trans rfl, (blk_cell BK159.out 2).trans rfl, (blk_cell BK159.out 3).trans rfl, (blk_cell BK159.out 4).trans rfl, (blk_cell BK159.out 5).trans rfl⟩ (fun hHeld => ?_)
              clear hK K
              refine norm_ (a' := ?_) ?_ ?_
              rotate_left
              · show Act.put _ (some 31) _ = _
                simp only [Act.put, List.setIfInBounds_toArray, List.set_cons_zero, List.set_cons_succ, i64_w, i32_w]
                rfl
              refine one_ (i := 11) (N := some 42) #[true, true, true, true, true, true, true, true, true, true, true, true, false, false] rfl rfl (one_of HT_.out (by kernel_rfl)) (by decide) (fun K hK => ?_)
              refine Kd.R_lit_step (Kd.int .u8) _ 5 ?hg (N := 42) ?hd (xs := ([t161, (Go.bits .or .i64 (wrap64 ((Go.bits .or .i64 a0_3 t163) * 16)) a0_2) % 256] : List Int)) (inner := [.int .u8 t161, .int .u8 ((Go.bits .or .i64 (wrap64 ((Go.bits .or .i64 a0_3 t163) * 16)) a0_2) % 256)]) (ok := fun _ => True) (okp := fun _ => True) ?hr ?hp (fun _ hk => hk) trivial (Below.refl _ _) (Nat.le_refl _) (by simp) ?_; (case hd => rfl); (case hg => rfl); (case hr => first | (go_simp; done) | (go_simp; rfl)); (case hp => exact (Reps.one (show Kd.M (Kd.int .u8) _ _ _ t161 [.int .u8 t161] from rfl) (Reps.one (show Kd.M (Kd.int .u8) _ _ _ ((Go.bits .or .i64 (wrap64 ((Go.bits .or .i64 a0_3 t163) * 16)) a0_2) % 256) [.int .u8 ((Go.bits .or .i64 (wrap64 ((Go.bits .or .i64 a0_3 t163) * 16)) a0_2) % 256)] from rfl) (Reps.none _ _))))
              intro v170 w52 ho53 hb hg_ hnew_
              clear hg_ hnew_
              (first | rw [← Ny169.out] at ho53 | (simp only [Int.reduceToNat] at ho53; rw [← Ny169.out] at ho53))
              have n0_ := Aside0.mk (Kd.R_elder' (by (with_reducible repeat (first | apply Kd.R_alloc | apply Kd.R_drewN | apply Kd.R_drew)); exact HO168.out) (Kd.R_base ho53) hb)
              have n1_ := Aside0.mk (Kd.R_lower (Kd.R_new' ho53 (Kd.R_lt (by (with_reducible repeat (first | apply Kd.R_alloc | apply Kd.R_drewN | apply Kd.R_drew)); exact HO168.out))) (below_size (by repeat (first | (with_reducible first | exact HB.out | apply below_alloc | apply pw_below_drewN | apply below_drew1 | refine below_set ?_ GE159.out) | exact HB.out))))
              have n2_ := Aside0.mk (blk_below (g := gb159) (o := .cells #[.int .i64 a0_0, .bool a0_1, .int .i64 a0_2, .int .i64 a0_3, .int .i64 a0_4, .int .i64 a0_5] 23 (0, 0)) (by (with_reducible repeat (first | refine blk_drewN ?_ _ | refine blk_drew ?_ | refine blk_alloc ?_ _)); exact BK159.out) hb)
              have n3_ := Aside0.mk (below_step (by repeat (first | (with_reducible first | exact HB.out | apply below_alloc | apply pw_below_drewN | apply below_drew1 | refine below_set ?_ GE159.out) | exact HB.out)) hb)
              clear HO168
              clear BK159
              clear HB
              have HO168 := n0_
              have HO171 := n1_
              have BK159 := n2_
              have HB := n3_
              clear n0_ n1_ n2_ n3_
              clear hb ho53
              refine hK.out _ _ ⟨(blk_cell BK159.out 0).trans rfl, (blk_cell BK159.out 1).trans rfl, (blk_cell BK159.out 2).trans rfl, (blk_cell BK159.out 3).trans rfl, (blk_cell BK159.out 4).trans rfl, (blk_cell BK159.out 5).trans rfl⟩ (fun hHeld => ?_)
              clear hK K
              refine norm_ (a' := ?_) ?_ ?_
              rotate_left
              · show Act.put _ (some 42) _ = _
                simp only [Act.put, List.setIfInBounds_toArray, List.set_cons_zero, List.set_cons_succ, i64_w, i32_w]
                rfl
              exact norm_ (by simp only [putAll, Act.put, List.setIfInBounds_toArray, List.set_cons_zero, List.set_cons_succ]) (hCont (v167, v170) _ ⟨hHeld, (by (with_reducible repeat (first | apply Kd.R_alloc | apply Kd.R_drewN | apply Kd.R_drew)); exact Kd.R_mono HO168.out (fun _ hk => hk.2)), (by (with_reducible repeat (first | apply Kd.R_alloc | apply Kd.R_drewN | apply Kd.R_drew)); exact Kd.R_mono HO171.out (fun _ hk => hk.2)), (by (with_reducible repeat (first | refine blk_drewN ?_ _ | refine blk_drew ?_ | refine blk_alloc ?_ _)); exact BK159.out), (by repeat (first | (with_reducible first | exact HB.out | apply below_alloc | apply pw_below_drewN | apply below_drew1 | refine below_set ?_ GE159.out) | exact HB.out))⟩)
            · skip
              refine Kd.R_lit_step (Kd.int .u8) _ 5 ?hg (N := 42) ?hd (xs := ([t161, (Go.bits .or .i64 (wrap64 ((Go.bits .or .i64 a0_3 t163) * 16)) a0_2) % 256] : List Int)) (inner := [.int .u8 t161, .int .u8 ((Go.bits .or .i64 (wrap64 ((Go.bits .or .i64 a0_3 t163) * 16)) a0_2) % 256)]) (ok := fun _ => True) (okp := fun _ => True) ?hr ?hp (fun _ hk => hk) trivial (Below.refl _ _) (Nat.le_refl _) (by simp) ?_; (case hd => rfl); (case hg => rfl); (case hr => first | (go_simp; done) | (go_simp; rfl)); (case hp => exact (Reps.one (show Kd.M (Kd.int .u8) _ _ _ t161 [.int .u8 t161] from rfl) (Reps.one (show Kd.M (Kd.int .u8) _ _ _ ((Go.bits .or .i64 (wrap64 ((Go.bits .or .i64 a0_3 t163) * 16)) a0_2) % 256) [.int .u8 ((Go.bits .or .i64 (wrap64 ((Go.bits .or .i64 a0_3 t163) * 16)) a0_2) % 256)] from rfl) (Reps.none _ _))))
              intro v170 w50 ho51 hb hg_ hnew_
              clear hg_ hnew_
              (first | rw [← Ny169.out] at ho51 | (simp only [Int.reduceToNat] at ho51; rw [← Ny169.out] at ho51))
              have n0_ := Aside0.mk (Kd.R_lower ho51 (below_size (by repeat (first | (with_reducible first | exact HB.out | apply below_alloc | apply pw_below_drewN | apply below_drew1 | refine below_set ?_ GE159.out) | exact HB.out))))
              have n1_ := Aside0.mk (blk_below (g := gb159) (o := .cells #[.int .i64 a0_0, .bool a0_1, .int .i64 a0_2, .int .i64 a0_3, .int .i64 a0_4, .int .i64 a0_5] 23 (0, 0)) (by (with_reducible repeat (first | refine blk_drewN ?_ _ | refine blk_drew ?_ | refine blk_alloc ?_ _)); exact BK159.out) hb)
              have n2_ := Aside0.mk (below_step (by repeat (first | (with_reducible first | exact HB.out | apply below_alloc | apply pw_below_drewN | apply below_drew1 | refine below_set ?_ GE159.out) | exact HB.out)) hb)
              clear BK159
              clear HB
              have HO171 := n0_
              have BK159 := n1_
              have HB := n2_
              clear n0_ n1_ n2_
              clear hb ho51
              refine hK.out _ _ ⟨(blk_cell BK159.out 0).trans rfl, (blk_cell BK159.out 1).trans rfl, (blk_cell BK159.out 2).trans rfl, (blk_cell BK159.out 3).trans rfl, (blk_cell BK159.out 4).trans rfl, (blk_cell BK159.out 5).trans rfl⟩ (fun hHeld => ?_)
              clear hK K
              refine norm_ (a' := ?_) ?_ ?_
              rotate_left
              · show Act.put _ (some 42) _ = _
                simp only [Act.put, List.setIfInBounds_toArray, List.set_cons_zero, List.set_cons_succ, i64_w, i32_w]
                rfl
              refine one_ (i := 0) (N := some 31) #[true, true, true, true, true, true, true, true, true, true, true, true, false, false] rfl rfl (one_of HT_.out (by kernel_rfl)) (by decide) (fun K hK => ?_)
              refine Kd.R_make0_step (Kd.int .u8) _ 5 (by rfl) (N := 31) rfl 44 _ _ rfl 0 rfl rfl Tryd.underlying44 (.int .u8 0) 1 info5 rfl (by decide) (by omega) 0 (ok := fun _ => True) (okp := fun _ => True) rfl (fun _ hk => hk) trivial (by omega) (by omega) (Below.refl _ _) (Nat.le_refl _) ?_
              intro v167 w52 ho53 hb hg_ hnew_
              clear hg_ hnew_
              (first | rw [← Ny166.out] at ho53 | (simp only [Int.reduceToNat] at ho53; rw [← Ny166.out] at ho53))
              have n0_ := Aside0.mk (Kd.R_elder' (by (with_reducible repeat (first | apply Kd.R_alloc | apply Kd.R_drewN | apply Kd.R_drew)); exact HO171.out) (Kd.R_base ho53) hb)
              have n1_ := Aside0.mk (Kd.R_lower (Kd.R_new' ho53 (Kd.R_lt (by (with_reducible repeat (first | apply Kd.R_alloc | apply Kd.R_drewN | apply Kd.R_drew)); exact HO171.out))) (below_size (by repeat (first | (with_reducible first | exact HB.out | apply below_alloc | apply pw_below_drewN | apply below_drew1 | refine below_set ?_ GE159.out) | exact HB.out))))
              have n2_ := Aside0.mk (blk_below (g := gb159) (o := .cells #[.int .i64 a0_0, .bool a0_1, .int .i64 a0_2, .int .i64 a0_3, .int .i64 a0_4, .int .i64 a0_5] 23 (0, 0)) (by (with_reducible repeat (first | refine blk_drewN ?_ _ | refine blk_drew ?_ | refine blk_alloc ?_ _)); exact BK159.out) hb)
              have n3_ := Aside0.mk (below_step (by repeat (first | (with_reducible first | exact HB.out | apply below_alloc | apply pw_below_drewN | apply below_drew1 | refine below_set ?_ GE159.out) | exact HB.out)) hb)
              clear HO171
              clear BK159
              clear HB
              have HO171 := n0_
              have HO168 := n1_
              have BK159 := n2_
              have HB := n3_
              clear n0_ n1_ n2_ n3_
              clear hb ho53
              refine hK.out _ _ ⟨(blk_cell BK159.out 0).trans rfl, (blk_cell BK159.out 1).trans rfl, (blk_cell BK159.out 2).trans rfl, (blk_cell BK159.out 3).trans rfl, (blk_cell BK159.out 4).trans rfl, (blk_cell BK159.out 5).trans rfl⟩ (fun hHeld => ?_)
              clear hK K
              refine norm_ (a' := ?_) ?_ ?_
              rotate_left
              · show Act.put _ (some 31) _ = _
                simp only [Act.put, List.setIfInBounds_toArray, List.set_cons_zero, List.set_cons_succ, i64_w, i32_w]
                rfl
              exact norm_ (by simp only [putAll, Act.put, List.setIfInBounds_toArray, List.set_cons_zero, List.set_cons_succ]) (hCont (v167, v170) _ ⟨hHeld, (by (with_reducible repeat (first | apply Kd.R_alloc | apply Kd.R_drewN | apply Kd.R_drew)); exact Kd.R_mono HO168.out (fun _ hk => hk.2)), (by (with_reducible repeat (first | apply Kd.R_alloc | apply Kd.R_drewN | apply Kd.R_drew)); exact Kd.R_mono HO171.out (fun _ hk => hk.2)), (by (with_reducible repeat (first | refine blk_drewN ?_ _ | refine blk_drew ?_ | refine blk_alloc ?_ _)); exact BK159.out), (by repeat (first | (with_reducible first | exact HB.out | apply below_alloc | apply pw_below_drewN | apply below_drew1 | refine below_set ?_ GE159.out) | exact HB.out))⟩)
          rintro ⟨v167, v170⟩ w54 ⟨hS_, h0_, h1_, h2_, h3_⟩
          have n0_ : Aside0 (Kd.R (Kd.int .u8) 5 w54 w.heap.size (fun k_ => some k_ ≠ (v170 : Value).ownBlock) v167 y166) := ⟨h0_⟩
          have n1_ : Aside0 (Kd.R (Kd.int .u8) 5 w54 w.heap.size (fun k_ => some k_ ≠ (v167 : Value).ownBlock) v170 y169) := ⟨h1_⟩
          have n2_ : Aside0 (w54.heap[gb159]? = some (.cells #[.int .i64 a0_0, .bool a0_1, .int .i64 a0_2, .int .i64 a0_3, .int .i64 a0_4, .int .i64 a0_5] 23 (0, 0))) := ⟨h2_⟩
          have n3_ : Aside0 (Below w.heap.size w w54) := ⟨h3_⟩
          clear BK159
          clear HB
          clear h0_ h1_ h2_ h3_
          have HO168 := n0_
          have HO171 := n1_
          have BK159 := n2_
          have HB := n3_
          clear n0_ n1_ n2_ n3_
          have hHeld : w54.cell? ⟨gb159, 0, none⟩ = some (.int .i64 a0_0) ∧ w54.cell? ⟨gb159, 1, none⟩ = some (.bool a0_1) ∧ w54.cell? ⟨gb159, 2, none⟩ = some (.int .i64 a0_2) ∧ w54.cell? ⟨gb159, 3, none⟩ = some (.int .i64 a0_3) ∧ w54.cell? ⟨gb159, 4, none⟩ = some (.int .i64 a0_4) ∧ w54.cell? ⟨gb159, 5, none⟩ = some (.int .i64 a0_5) := hS_
          obtain ⟨Ao56, co56, eo56⟩ := Kd.R_slice HO171.out
          (first | subst eo56 | (injection eo56 with f1_ f2_ f3_; have f4_ := f1_.symm; have f5_ := f3_.symm; clear f1_ f2_ f3_; subst f4_; subst f5_))
          refine norm_ (a' := ?_) ?_ ?_
          rotate_left
          · simp only [putAll, Act.put, List.setIfInBounds_toArray, List.set_cons_zero, List.set_cons_succ]
            rfl
          refine one_ (i := 12) (N := some 43) #[true, true, true, true, true, true, true, true, true, true, true, true, true, false] rfl rfl (one_of HT_.out (by kernel_rfl)) (by decide) (fun K hK => ?_)
          refine Kd.R_append_rows_step (Kd.int .u8) (w0 := w) w.heap.size (by rfl) (.tmp 31) (.tmp 42) 44 5 (.int .u8 0) 1 rfl Tryd.underlying44 info5 rfl (by decide) (by omega) v167 y166 y169 _ _ _ (fun k_ => some k_ ≠ (.slice Ao56 y169.length co56 : Value).ownBlock) (fun _ => False) rfl rfl ?aO ?aR (fun _ _ h => h) (fun _ h => h.elim) ?aF ?aB ?aS ?aL ?_
          (case aR => repeat (first | exact (Kd.R_reads' HO171.out).2.2 | (with_reducible refine Kd.C_alloc ?_ _) | (with_reducible refine Kd.C_drewN ?_ _) | (with_reducible refine Kd.C_drew ?_)))
          (case aB => exact (by repeat (first | (with_reducible first | exact HB.out | apply below_alloc | apply pw_below_drewN | apply below_drew1 | refine below_set ?_ GE159.out) | exact HB.out)))
          (case aF => exact (fun k_ hk => Kd.fresh' (Kd.R_lt (by (with_reducible repeat (first | apply Kd.R_alloc | apply Kd.R_drewN | apply Kd.R_drew)); exact HO171.out)) k_ hk))
          (case aO => exact (by (with_reducible repeat (first | apply Kd.R_alloc | apply Kd.R_drewN | apply Kd.R_drew)); exact HO168.out))
          (case aS => exact (below_size (by repeat (first | (with_reducible first | exact HB.out | apply below_alloc | apply pw_below_drewN | apply below_drew1 | refine below_set ?_ GE159.out) | exact HB.out))))
          (case aL => have := LMc7.out; omega)
          intro v173 w55 ho hb hg hat
          rw [← Ny172.out] at ho
          have n0_ := Aside0.mk (blk_grown (g := gb159) (o := .cells #[.int .i64 a0_0, .bool a0_1, .int .i64 a0_2, .int .i64 a0_3, .int .i64 a0_4, .int .i64 a0_5] 23 (0, 0)) (by (with_reducible repeat (first | refine blk_drewN ?_ _ | refine blk_drew ?_ | refine blk_alloc ?_ _)); exact BK159.out) hg (Kd.R_ne HO168.out BK159.out (by decide)))
          have n1_ := Aside0.mk (Kd.R_after (ok := (fun _ => True)) (by (with_reducible repeat (first | apply Kd.R_alloc | apply Kd.R_drewN | apply Kd.R_drew)); exact Kd.R_mono HO171.out (fun _ hk => ⟨trivial, hk⟩)) hg hat)
          have n2_ := Aside0.mk (hb)
          have n3_ := Aside0.mk (ho)
          clear BK159
          clear HO171
          clear HB
          clear HO168
          have BK159 := n0_
          have HO171 := n1_
          have HB := n2_
          have HO174 := n3_
          clear n0_ n1_ n2_ n3_
          clear ho hb hg hat
          refine hK.out _ _ ⟨(blk_cell BK159.out 0).trans rfl, (blk_cell BK159.out 1).trans rfl, (blk_cell BK159.out 2).trans rfl, (blk_cell BK159.out 3).trans rfl, (blk_cell BK159.out 4).trans rfl, (blk_cell BK159.out 5).trans rfl⟩ (fun hHeld => ?_)
          clear hK K
          refine norm_ (a' := ?_) ?_ ?_
          rotate_left
          · show Act.put _ (some 43) _ = _
            simp only [Act.put, List.setIfInBounds_toArray, List.set_cons_zero, List.set_cons_succ, i64_w, i32_w]
            rfl
          refine pure_ (i := 13) (N := some 10) (v := ?_) (a' := ?_) #[true, true, true, true, true, true, true, true, true, true, true, true, true, true] rfl rfl (any_of HT_.out (by kernel_rfl)) (fun _ _ _ h => h) (Or.inl ⟨by rfl, ?_⟩) ?_ ?_
          rotate_left
          · intro w'
            go_simp
            with_reducible rfl
          rotate_left
          · simp only [Act.put, List.setIfInBounds_toArray, List.set_cons_zero, List.set_cons_succ, i64_w, i32_w]
            rfl
          refine done_ (done_of HT_.out (by kernel_rfl)) ?_
          have hcz57_0 : w55.cell? ⟨gb159, 0, none⟩ = some (.int .i64 a0_0) := (blk_cell BK159.out 0).trans rfl
          have hcz57_1 : w55.cell? ⟨gb159, 1, none⟩ = some (.bool a0_1) := (blk_cell BK159.out 1).trans rfl
          have hcz57_2 : w55.cell? ⟨gb159, 2, none⟩ = some (.int .i64 a0_2) := (blk_cell BK159.out 2).trans rfl
          have hcz57_3 : w55.cell? ⟨gb159, 3, none⟩ = some (.int .i64 a0_3) := (blk_cell BK159.out 3).trans rfl
          have hcz57_4 : w55.cell? ⟨gb159, 4, none⟩ = some (.int .i64 a0_4) := (blk_cell BK159.out 4).trans rfl
          have hcz57_5 : w55.cell? ⟨gb159, 5, none⟩ = some (.int .i64 a0_5) := (blk_cell BK159.out 5).trans rfl
          have hfz57_0 := blk_frozen BK159.out 0
          have hfz57_1 := blk_frozen BK159.out 1
          have hfz57_2 := blk_frozen BK159.out 2
          have hfz57_3 := blk_frozen BK159.out 3
          have hfz57_4 := blk_frozen BK159.out 4
          have hfz57_5 := blk_frozen BK159.out 5
          obtain ⟨Ao58, co58, eo58⟩ := Kd.R_slice HO174.out
          subst eo58
          try go_wp2_with (first | ((with_reducible refine gate_callee (f := 57) rfl ?_); refine goesL_ (some 49) rfl rfl Tryd.func57 (by kernel_rfl) rfl #[.slice Ao58 y172.length co58, .int .i64 (Go.bits .or .i64 a0_4 t164), .int .i64 2] rfl (by (try simp only [List.map_toArray, List.map_cons, List.map_nil]); first | done | rfl | (simp only [List.length_drop, List.length_take]; rfl)) ?_; (with_reducible refine (slot_put_int.calls k (fun k_ => some k_ = (.slice Ao58 y172.length co58 : Value).ownBlock) (.slice Ao58 y172.length co58) y172 (Go.bits .or .i64 a0_4 t164) 2 t175 w _ ?side1 ?side2 A8.out).mono ?_); (case side1 => repeat (first | (with_reducible first | exact HB.out | apply below_alloc | apply pw_below_drewN | apply below_drew1 | refine below_set ?_ GE159.out) | exact HB.out)); (case side2 => exact Kd.R_tight rfl HO174.out); rintro e w59 ⟨v176, rfl, ho0, hb, hkp⟩; refine ⟨_, rfl, ?_⟩; have n0_ := Aside0.mk (blk_kept (by (with_reducible repeat (first | refine blk_drewN ?_ _ | refine blk_drew ?_ | refine blk_alloc ?_ _)); exact BK159.out) hkp (fun hs_ => (fun e_ => (Kd.R_ne HO174.out BK159.out (by decide)) e_) hs_)); have n1_ := Aside0.mk (Kd.R_mono (ok' := fun k_ => some k_ ≠ (v176 : Value).ownBlock) (Kd.R_keptB (HO171.out) hkp (fun k_ hk_ hs_ => (hk_.2) hs_)) (fun k_ hk_ => fun e_ => Or.elim (ho0.1 k_ e_.symm) (fun hs_ => hk_.2.1 hs_) (fun hn_ => Nat.not_le.2 hk_.2.2 hn_))); have n2_ := Aside0.mk (Kd.R_mono (ok' := fun k_ => some k_ ≠ (.slice Ao56 y169.length co56 : Value).ownBlock) ho0 (fun k_ hk_ => Or.elim hk_ (fun hs_ => fun e_ => (((HO171.out).1 k_ e_.symm).2) hs_) (fun hn_ => (Kd.fresh' (Kd.R_lt (by (with_reducible repeat (first | apply Kd.R_alloc | apply Kd.R_drewN | apply Kd.R_drew)); exact HO171.out)) k_ hn_)))); have n3_ := Aside0.mk (hb); clear BK159; clear HO171; clear HB; clear HO174; have BK159 := n0_; have HO171 := n1_; have HO177 := n2_; have HB := n3_; clear n0_ n1_ n2_ n3_; (try clear hb); (try clear hkp); (try clear ho0); have hcz60_0 : w59.cell? ⟨gb159, 0, none⟩ = some (.int .i64 a0_0) := (blk_cell BK159.out 0).trans rfl; have hcz60_1 : w59.cell? ⟨gb159, 1, none⟩ = some (.bool a0_1) := (blk_cell BK159.out 1).trans rfl; have hcz60_2 : w59.cell? ⟨gb159, 2, none⟩ = some (.int .i64 a0_2) := (blk_cell BK159.out 2).trans rfl; have hcz60_3 : w59.cell? ⟨gb159, 3, none⟩ = some (.int .i64 a0_3) := (blk_cell BK159.out 3).trans rfl; have hcz60_4 : w59.cell? ⟨gb159, 4, none⟩ = some (.int .i64 a0_4) := (blk_cell BK159.out 4).trans rfl; have hcz60_5 : w59.cell? ⟨gb159, 5, none⟩ = some (.int .i64 a0_5) := (blk_cell BK159.out 5).trans rfl; have hfz60_0 := blk_frozen BK159.out 0; have hfz60_1 := blk_frozen BK159.out 1; have hfz60_2 := blk_frozen BK159.out 2; have hfz60_3 := blk_frozen BK159.out 3; have hfz60_4 := blk_frozen BK159.out 4; have hfz60_5 := blk_frozen BK159.out 5; obtain ⟨Ao61, co61, eo61⟩ := Kd.R_slice HO177.out; subst eo61) | ((with_reducible refine gate_callee (f := 58) rfl ?_); refine goesL_ (some 55) rfl rfl Tryd.func58 (by kernel_rfl) rfl #[.slice Ao61 t175.length co61, .int .i64 (Go.bits .or .i64 a0_5 t165), .int .i64 4] rfl (by (try simp only [List.map_toArray, List.map_cons, List.map_nil]); first | done | rfl | (simp only [List.length_drop, List.length_take]; rfl)) ?_; (with_reducible refine (slot_put_int64.calls k (fun k_ => some k_ = (.slice Ao61 t175.length co61 : Value).ownBlock) (.slice Ao61 t175.length co61) t175 (Go.bits .or .i64 a0_5 t165) 4 t178 w _ ?side1 ?side2 A9.out).mono ?_); (case side1 => repeat (first | (with_reducible first | exact HB.out | apply below_alloc | apply pw_below_drewN | apply below_drew1 | refine below_set ?_ GE159.out) | exact HB.out)); (case side2 => exact Kd.R_tight rfl HO177.out); rintro e w62 ⟨v179, rfl, ho0, hb, hkp⟩; refine ⟨_, rfl, ?_⟩; have n0_ := Aside0.mk (blk_kept (by (with_reducible repeat (first | refine blk_drewN ?_ _ | refine blk_drew ?_ | refine blk_alloc ?_ _)); exact BK159.out) hkp (fun hs_ => (fun e_ => (Kd.R_ne HO177.out BK159.out (by decide)) e_) hs_)); have n1_ := Aside0.mk (Kd.R_mono (ok' := fun k_ => some k_ ≠ (v179 : Value).ownBlock) (Kd.R_keptB (HO171.out) hkp (fun k_ hk_ hs_ => (hk_) hs_)) (fun k_ hk_ => fun e_ => Or.elim (ho0.1 k_ e_.symm) (fun hs_ => hk_.2.1 hs_) (fun hn_ => Nat.not_le.2 hk_.2.2 hn_))); have n2_ := Aside0.mk (Kd.R_mono (ok' := fun k_ => some k_ ≠ (.slice Ao56 y169.length co56 : Value).ownBlock) ho0 (fun k_ hk_ => Or.elim hk_ (fun hs_ => fun e_ => (((HO171.out).1 k_ e_.symm)) hs_) (fun hn_ => (Kd.fresh' (Kd.R_lt (by (with_reducible repeat (first | apply Kd.R_alloc | apply Kd.R_drewN | apply Kd.R_drew)); exact HO171.out)) k_ hn_)))); have n3_ := Aside0.mk (hb); clear BK159; clear HO171; clear HB; clear HO177; have BK159 := n0_; have HO171 := n1_; have HO180 := n2_; have HB := n3_; clear n0_ n1_ n2_ n3_; (try clear hb); (try clear hkp); (try clear ho0); have hcz63_0 : w62.cell? ⟨gb159, 0, none⟩ = some (.int .i64 a0_0) := (blk_cell BK159.out 0).trans rfl; have hcz63_1 : w62.cell? ⟨gb159, 1, none⟩ = some (.bool a0_1) := (blk_cell BK159.out 1).trans rfl; have hcz63_2 : w62.cell? ⟨gb159, 2, none⟩ = some (.int .i64 a0_2) := (blk_cell BK159.out 2).trans rfl; have hcz63_3 : w62.cell? ⟨gb159, 3, none⟩ = some (.int .i64 a0_3) := (blk_cell BK159.out 3).trans rfl; have hcz63_4 : w62.cell? ⟨gb159, 4, none⟩ = some (.int .i64 a0_4) := (blk_cell BK159.out 4).trans rfl; have hcz63_5 : w62.cell? ⟨gb159, 5, none⟩ = some (.int .i64 a0_5) := (blk_cell BK159.out 5).trans rfl; have hfz63_0 := blk_frozen BK159.out 0; have hfz63_1 := blk_frozen BK159.out 1; have hfz63_2 := blk_frozen BK159.out 2; have hfz63_3 := blk_frozen BK159.out 3; have hfz63_4 := blk_frozen BK159.out 4; have hfz63_5 := blk_frozen BK159.out 5) | ((with_reducible refine gate_callee (f := 59) rfl ?_); refine goesL_ (some 58) rfl rfl Tryd.func59 (by kernel_rfl) rfl #[.int .i64 a0_0] rfl (by (try simp only [List.map_toArray, List.map_cons, List.map_nil]); first | done | rfl | (simp only [List.length_drop, List.length_take]; rfl)) ?_; (with_reducible refine (insn_Slots.calls a0_0 t181 _ A10.out (G_at hG (by repeat (first | (with_reducible first | exact HB.out | apply below_alloc | apply pw_below_drewN | apply below_drew1 | refine below_set ?_ GE159.out) | exact HB.out)))).mono ?_); rintro e w64 ⟨rfl, hb⟩; refine ⟨_, rfl, ?_⟩; have n0_ := Aside0.mk (Kd.R_below (by (with_reducible repeat (first | apply Kd.R_alloc | apply Kd.R_drewN | apply Kd.R_drew)); exact HO171.out) hb); have n1_ := Aside0.mk (Kd.R_below (by (with_reducible repeat (first | apply Kd.R_alloc | apply Kd.R_drewN | apply Kd.R_drew)); exact HO180.out) hb); have n2_ := Aside0.mk (blk_below (g := gb159) (o := .cells #[.int .i64 a0_0, .bool a0_1, .int .i64 a0_2, .int .i64 a0_3, .int .i64 a0_4, .int .i64 a0_5] 23 (0, 0)) (by (with_reducible repeat (first | refine blk_drewN ?_ _ | refine blk_drew ?_ | refine blk_alloc ?_ _)); exact BK159.out) hb); have n3_ := Aside0.mk (below_step (by repeat (first | (with_reducible first | exact HB.out | apply below_alloc | apply pw_below_drewN | apply below_drew1 | refine below_set ?_ GE159.out) | exact HB.out)) hb); clear HO171; clear HO180; clear BK159; clear HB; have HO171 := n0_; have HO180 := n1_; have BK159 := n2_; have HB := n3_; clear n0_ n1_ n2_ n3_; (try clear hb); (try clear hb2); (try clear hk); (try clear hi)))
          go_ret2
          exact ⟨_, by first | rfl | (simp [errW_none, errW_some] <;> rfl) | (simp [*, errW_none, errW_some] <;> rfl), by (with_reducible repeat (first | apply Kd.R_alloc | apply Kd.R_drewN | apply Kd.R_drew)); exact Kd.R_mono HO180.out (fun _ hk => trivial), by repeat (first | (with_reducible first | exact HB.out | apply below_alloc | apply pw_below_drewN | apply below_drew1 | refine below_set ?_ GE159.out) | exact HB.out)⟩
      · rw [if_neg c7] at H
        exact absurd H (by simp)
    · rw [if_neg c6] at H
      exact absurd H (by simp)
  · rw [if_neg c3] at H
    have c3b0 : (t160 == 0) = false := beq_eq_false_iff_ne.mpr c3
    have c3b1 : (t160 != 0) = true := bne_iff_ne.mpr c3
    simp only [Option.some.injEq, Prod.mk.injEq] at H
    obtain ⟨rfl, rfl⟩ := H
    go_enter Tryd.func27, Tryd.ntmps27
    go_wp2_with (first | ((with_reducible refine gate_dst (N := 1) rfl ?_); refine box_event ?hg (N := 1) ?hd (cs := #[.int .i64 a0_0, .bool a0_1, .int .i64 a0_2, .int .i64 a0_3, .int .i64 a0_4, .int .i64 a0_5]) (t := 23) ?hr ?_; (case hd => rfl); (case hg => rfl); (case hr => first | (go_simp; done) | (go_simp; rfl)); intro gb159 hg w65 hbox hb; have n0_ := Aside0.mk (below_step (by repeat (first | (with_reducible first | exact HB.out | apply below_alloc | apply pw_below_drewN | apply below_drew1) | exact HB.out)) hb); have n1_ := Aside0.mk (hbox); have n2_ := Aside0.mk ((by rw [hg]; exact (below_size (by repeat (first | (with_reducible first | exact HB.out | apply below_alloc | apply pw_below_drewN | apply below_drew1) | exact HB.out))) : w.heap.size ≤ gb159)); have n3_ := Aside0.mk ((by rw [hg]; exact (below_size (by repeat (first | (with_reducible first | exact HB.out | apply below_alloc | apply pw_below_drewN | apply below_drew1) | exact HB.out))) : w.heap.size ≤ gb159)); clear HB; have HB := n0_; have BK159 := n1_; have GW159 := n2_; have GE159 := n3_; clear n0_ n1_ n2_ n3_; clear hb hbox hg; have hcz66_0 : w65.cell? ⟨gb159, 0, none⟩ = some (.int .i64 a0_0) := (blk_cell BK159.out 0).trans rfl; have hcz66_1 : w65.cell? ⟨gb159, 1, none⟩ = some (.bool a0_1) := (blk_cell BK159.out 1).trans rfl; have hcz66_2 : w65.cell? ⟨gb159, 2, none⟩ = some (.int .i64 a0_2) := (blk_cell BK159.out 2).trans rfl; have hcz66_3 : w65.cell? ⟨gb159, 3, none⟩ = some (.int .i64 a0_3) := (blk_cell BK159.out 3).trans rfl; have hcz66_4 : w65.cell? ⟨gb159, 4, none⟩ = some (.int .i64 a0_4) := (blk_cell BK159.out 4).trans rfl; have hcz66_5 : w65.cell? ⟨gb159, 5, none⟩ = some (.int .i64 a0_5) := (blk_cell BK159.out 5).trans rfl; have hfz66_0 := blk_frozen BK159.out 0; have hfz66_1 := blk_frozen BK159.out 1; have hfz66_2 := blk_frozen BK159.out 2; have hfz66_3 := blk_frozen BK159.out 3; have hfz66_4 := blk_frozen BK159.out 4; have hfz66_5 := blk_frozen BK159.out 5) | ((with_reducible refine gate_callee (f := 55) rfl ?_); refine goesL_ (some 12) rfl rfl Tryd.func55 (by kernel_rfl) rfl #[.agg #[.int .i64 a0_0, .bool a0_1, .int .i64 a0_2, .int .i64 a0_3, .int .i64 a0_4, .int .i64 a0_5]] rfl (by (try simp only [List.map_toArray, List.map_cons, List.map_nil]); first | done | rfl | (simp only [List.length_drop, List.length_take]; rfl)) ?_; (with_reducible refine (insn_Check.calls a0_0 a0_1 a0_2 a0_3 a0_4 a0_5 t160 _ A2.out (G_at hG (by repeat (first | (with_reducible first | exact HB.out | apply below_alloc | apply pw_below_drewN | apply below_drew1 | refine below_set ?_ GE159.out) | exact HB.out)))).mono ?_); rintro e w67 ⟨rfl, hb⟩; refine ⟨_, rfl, ?_⟩; have n0_ := Aside0.mk (blk_below (g := gb159) (o := .cells #[.int .i64 a0_0, .bool a0_1, .int .i64 a0_2, .int .i64 a0_3, .int .i64 a0_4, .int .i64 a0_5] 23 (0, 0)) (by (with_reducible repeat (first | refine blk_drewN ?_ _ | refine blk_drew ?_ | refine blk_alloc ?_ _)); exact BK159.out) hb); have n1_ := Aside0.mk (below_step (by repeat (first | (with_reducible first | exact HB.out | apply below_alloc | apply pw_below_drewN | apply below_drew1 | refine below_set ?_ GE159.out) | exact HB.out)) hb); clear BK159; clear HB; have BK159 := n0_; have HB := n1_; clear n0_ n1_; (try clear hb); (try clear hb2); (try clear hk); (try clear hi)))
    go_ret2
    exact ⟨_, by first | rfl | (simp [errW_none, errW_some] <;> rfl) | (simp [*, errW_none, errW_some] <;> rfl), by first | exact Kd.R_nil _ _ _ _ _ | exact Kd.N_nil _ _ _ _ _ | exact Kd.V_nil _ _ _ _ _ | exact Kd.Q_nil _ _ _ _ _ | exact Kd.S_nil _ _ _ _ _, by repeat (first | (with_reducible first | exact HB.out | apply below_alloc | apply pw_below_drewN | apply below_drew1 | refine below_set ?_ GE159.out) | exact HB.out)⟩

end Go.Proofs.YtnllfppkfdnjpabDoor.Q
