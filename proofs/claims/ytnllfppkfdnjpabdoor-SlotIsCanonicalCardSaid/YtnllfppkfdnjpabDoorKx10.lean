-- PRINTED by print.py (a twelfth state) out of the translation. Not trusted: Lean checks it.
import Derived.Test.YtnllfppkfdnjpabDoorChk
import Derived.Test.YtnllfppkfdnjpabDoorSis
import Derived.Test.YtnllfppkfdnjpabDoorKx0
import Derived.Test.YtnllfppkfdnjpabDoorKx2
import Derived.Test.YtnllfppkfdnjpabDoorKx5
import Derived.Test.YtnllfppkfdnjpabDoorKx6
namespace Go.Proofs.YtnllfppkfdnjpabDoor.Q
open Go.RowKit Go.Proofs.YtnllfppkfdnjpabDoorW.PrintWords Go.Proofs.YtnllfppkfdnjpabDoorW.PrintLast Go.Proofs.YtnllfppkfdnjpabDoorW.PrintMore
attribute [local go_sem] max2_int min2_int max_two min_two max_three min_three max_four min_four   -- for this text's walks alone
set_option linter.unusedVariables false
set_option linter.unusedSimpArgs false

/-! ### slot_Decode: function 32 -/
def slot_Decode.f (k : Nat) (l0 : List Int) : Option (Int × Bool × Int × Int × Int × Int × Int × Int) := if (l0.length : Int) < 8 then (some (0, false, 0, 0, 0, 0, 0, 17)) else (if 1 < (l0.length : Int) then (if 2 ≤ 4 then (if 4 ≤ (l0.length : Int) then ((slot_get.f k ((l0.take 4).drop 2)).bind fun t222 => ((num_Extend.f t222 16).bind fun t223 => (if 4 ≤ 8 then (if 8 ≤ (l0.length : Int) then ((slot_get.f k ((l0.take 8).drop 4)).bind fun t225 => ((num_Extend.f t225 32).bind fun t226 => (if 0 < (l0.length : Int) then ((ops_Identify.f (rd l0 0) (wrap64 ((rd l0 1) / 16)) t223 t226).bind fun bt228 => (if bt228.2.2 = true then ((insn_Slots.f bt228.1).bind fun t231 => (if (l0.length : Int) < (wrap64 (t231 * 8)) then (some (0, false, 0, 0, 0, 0, 0, 17)) else (if (mx (wrap64 (Go.bits .and .u8 (rd l0 1) 15)) (wrap64 ((rd l0 1) / 16))) ≥ 11 then (some (0, false, 0, 0, 0, 0, 0, 5)) else ((ops_Fixed.f bt228.1).bind fun bt232 => (if t231 = 2 then (if 8 ≤ 12 then (if 12 ≤ (l0.length : Int) then ((slot_get.f k ((l0.take 12).drop 8)).bind fun t236 => (if t236 = 0 then (if 12 ≤ 16 then (if 16 ≤ (l0.length : Int) then ((slot_get.f k ((l0.take 16).drop 12)).bind fun t238 => ((slot_get.f k ((l0.take 8).drop 4)).bind fun t240 => ((insn_Check.f bt228.1 bt228.2.1 (wrap64 (Go.bits .and .u8 (rd l0 1) 15)) (wrap64 ((wrap64 ((rd l0 1) / 16)) - bt232.1)) (wrap64 (t223 - bt232.2.1)) (wrap64 (Go.bits .or .u64 (IntKind.u64.wrap (t238 * 4294967296)) t240))).bind fun t241 => (if t241 = 0 then (some (bt228.1, bt228.2.1, wrap64 (Go.bits .and .u8 (rd l0 1) 15), wrap64 ((wrap64 ((rd l0 1) / 16)) - bt232.1), wrap64 (t223 - bt232.2.1), wrap64 (Go.bits .or .u64 (IntKind.u64.wrap (t238 * 4294967296)) t240), t231, 0)) else (some (0, false, 0, 0, 0, 0, 0, 12)))))) else (none)) else (none)) else (some (0, false, 0, 0, 0, 0, 0, 12)))) else (none)) else (none)) else ((insn_Check.f bt228.1 bt228.2.1 (wrap64 (Go.bits .and .u8 (rd l0 1) 15)) (wrap64 ((wrap64 ((rd l0 1) / 16)) - bt232.1)) (wrap64 (t223 - bt232.2.1)) (wrap64 (t226 - bt232.2.2))).bind fun t242 => (if t242 = 0 then (some (bt228.1, bt228.2.1, wrap64 (Go.bits .and .u8 (rd l0 1) 15), wrap64 ((wrap64 ((rd l0 1) / 16)) - bt232.1), wrap64 (t223 - bt232.2.1), wrap64 (t226 - bt232.2.2), t231, 0)) else (some (0, false, 0, 0, 0, 0, 0, 12))))))))) else (some (0, false, 0, 0, 0, 0, 0, 6)))) else (none)))) else (none)) else (none)))) else (none)) else (none)) else (none))
theorem slot_Decode.mono : ∀ a0 k, LeO (slot_Decode.f k a0) (slot_Decode.f (k + 1) a0) := by
  intro a0 k
  unfold slot_Decode.f
  repeat' first
      | (with_reducible exact slot_get.mono _ _)
      | (with_reducible exact LeO.refl _)
      | (with_reducible exact LeO.none _)
      | (with_reducible refine LeO.ite ?_ ?_)
      | (with_reducible refine LeO.bind ?_ (fun _ => ?_))
      | exact slot_get.mono _ _
      | exact LeO.none _
      | refine LeO.ite ?_ ?_
      | refine LeO.bind ?_ (fun _ => ?_)
def slot_Decode.T3 : Bool × List (List Nat × List Nat) := (true, [([], []), ([0], [0]), ([1], [1]), ([2], [2]), ([3], [3]), ([], []), ([5], [5]), ([6], [6]), ([7], [7]), ([8], [8]), ([4, 0, 1, 2, 3, 4], [4]), ([9, 10, 0, 1, 2, 3, 4, 5, 6, 7, 8, 9, 10], [9])])
def slot_Decode.B3 : List Nat := [0, 1, 3, 7, 15, 0, 32, 96, 224, 480, 31, 2047]
theorem slot_Decode.tab3 : rtab .any (opsOf Tryd.f32 3) = slot_Decode.T3 := by kernel_rfl
theorem slot_Decode.bits3 : waitsOk slot_Decode.T3.2 slot_Decode.B3 = true := by kernel_rfl
def slot_Decode.T4 : Bool × List (List Nat × List Nat) := (true, [([], []), ([0], [0]), ([1], [1]), ([2, 2], [2]), ([], []), ([4], [4]), ([5, 3], [5]), ([6, 6], [6]), ([3, 7, 0, 1, 2, 3], [3]), ([7, 8, 0, 1, 2, 3, 4, 5, 6, 7, 8], [7])])
def slot_Decode.B4 : List Nat := [0, 1, 3, 7, 0, 16, 63, 127, 255, 511]
theorem slot_Decode.tab4 : rtab .any (opsOf Tryd.f32 4) = slot_Decode.T4 := by kernel_rfl
theorem slot_Decode.bits4 : waitsOk slot_Decode.T4.2 slot_Decode.B4 = true := by kernel_rfl
def slot_Decode.T18 : Bool × List (List Nat × List Nat) := (true, [([], []), ([0], [0]), ([1], [1]), ([2], [2]), ([], []), ([4], [4]), ([5, 2], [5]), ([3, 6], [3, 6]), ([7], [7]), ([0, 1, 2, 3, 4, 5, 6, 7, 8], []), ([9, 8, 6, 0, 1, 2, 3, 4, 5, 6, 7, 8], [8, 9])])
def slot_Decode.B18 : List Nat := [0, 1, 3, 7, 0, 16, 55, 127, 255, 511, 1023]
theorem slot_Decode.tab18 : rtab .any (opsOf Tryd.f32 18) = slot_Decode.T18 := by kernel_rfl
theorem slot_Decode.bits18 : waitsOk slot_Decode.T18.2 slot_Decode.B18 = true := by kernel_rfl
attribute [local go_sem ↓] isSome_setCell
set_option maxHeartbeats 8000000 in
set_option maxRecDepth 100000 in
theorem slot_Decode.calls (k : Nat) (A0 : Option Addr) (c0 : Nat) (l0 : List Int) (r1 : Int) (r2 : Bool) (r3 : Int) (r4 : Int) (r5 : Int) (r6 : Int) (r7 : Int) (r8 : Int) (w : World) (hr0 : Kd.C (Kd.int .u8) w A0 l0.length l0) (hc0 : l0.length ≤ c0) (h : slot_Decode.f k l0 = some (r1, r2, r3, r4, r5, r6, r7, r8)) (hG : GG w) :
    Calls Tryd.prog 32 #[.slice A0 l0.length c0] w fun e w' => e = .returned (.tuple #[.agg #[.int .i64 r1, .bool r2, .int .i64 r3, .int .i64 r4, .int .i64 r5, .int .i64 r6], .int .i64 r7, .int .i64 r8]) ∧ Below w.heap.size w w' := by
  have hu23 := Tryd.underlying23
  have HR0 := Aside0.mk hr0
  have HC0 := Aside0.mk hc0
  clear hr0 hc0
  have HB := Aside0.mk (Below.refl w.heap.size w)
  have H : (if (l0.length : Int) < 8 then (some (0, false, 0, 0, 0, 0, 0, 17)) else (if 1 < (l0.length : Int) then (if 2 ≤ 4 then (if 4 ≤ (l0.length : Int) then ((slot_get.f k ((l0.take 4).drop 2)).bind fun t222 => ((num_Extend.f t222 16).bind fun t223 => (if 4 ≤ 8 then (if 8 ≤ (l0.length : Int) then ((slot_get.f k ((l0.take 8).drop 4)).bind fun t225 => ((num_Extend.f t225 32).bind fun t226 => (if 0 < (l0.length : Int) then ((ops_Identify.f (rd l0 0) (wrap64 ((rd l0 1) / 16)) t223 t226).bind fun bt228 => (if bt228.2.2 = true then ((insn_Slots.f bt228.1).bind fun t231 => (if (l0.length : Int) < (wrap64 (t231 * 8)) then (some (0, false, 0, 0, 0, 0, 0, 17)) else (if (mx (wrap64 (Go.bits .and .u8 (rd l0 1) 15)) (wrap64 ((rd l0 1) / 16))) ≥ 11 then (some (0, false, 0, 0, 0, 0, 0, 5)) else ((ops_Fixed.f bt228.1).bind fun bt232 => (if t231 = 2 then (if 8 ≤ 12 then (if 12 ≤ (l0.length : Int) then ((slot_get.f k ((l0.take 12).drop 8)).bind fun t236 => (if t236 = 0 then (if 12 ≤ 16 then (if 16 ≤ (l0.length : Int) then ((slot_get.f k ((l0.take 16).drop 12)).bind fun t238 => ((slot_get.f k ((l0.take 8).drop 4)).bind fun t240 => ((insn_Check.f bt228.1 bt228.2.1 (wrap64 (Go.bits .and .u8 (rd l0 1) 15)) (wrap64 ((wrap64 ((rd l0 1) / 16)) - bt232.1)) (wrap64 (t223 - bt232.2.1)) (wrap64 (Go.bits .or .u64 (IntKind.u64.wrap (t238 * 4294967296)) t240))).bind fun t241 => (if t241 = 0 then (some (bt228.1, bt228.2.1, wrap64 (Go.bits .and .u8 (rd l0 1) 15), wrap64 ((wrap64 ((rd l0 1) / 16)) - bt232.1), wrap64 (t223 - bt232.2.1), wrap64 (Go.bits .or .u64 (IntKind.u64.wrap (t238 * 4294967296)) t240), t231, 0)) else (some (0, false, 0, 0, 0, 0, 0, 12)))))) else (none)) else (none)) else (some (0, false, 0, 0, 0, 0, 0, 12)))) else (none)) else (none)) else ((insn_Check.f bt228.1 bt228.2.1 (wrap64 (Go.bits .and .u8 (rd l0 1) 15)) (wrap64 ((wrap64 ((rd l0 1) / 16)) - bt232.1)) (wrap64 (t223 - bt232.2.1)) (wrap64 (t226 - bt232.2.2))).bind fun t242 => (if t242 = 0 then (some (bt228.1, bt228.2.1, wrap64 (Go.bits .and .u8 (rd l0 1) 15), wrap64 ((wrap64 ((rd l0 1) / 16)) - bt232.1), wrap64 (t223 - bt232.2.1), wrap64 (t226 - bt232.2.2), t231, 0)) else (some (0, false, 0, 0, 0, 0, 0, 12))))))))) else (some (0, false, 0, 0, 0, 0, 0, 6)))) else (none)))) else (none)) else (none)))) else (none)) else (none)) else (none))) = some (r1, r2, r3, r4, r5, r6, r7, r8) := h
  clear h
  by_cases c2 : (l0.length : Int) < 8
  · rw [if_pos c2] at H
    have c2b0 : decide ((l0.length : Int) < 8) = true := decide_eq_true c2
    have c2b1 : decide (l0.length < 8) = true := decide_eq_true (by omega)
    clear c2
    simp only [Option.some.injEq, Prod.mk.injEq] at H
    obtain ⟨rfl, rfl, rfl, rfl, rfl, rfl, rfl, rfl⟩ := H
    go_enter Tryd.func32, Tryd.ntmps32
    go_wp2_with (first | ((with_reducible refine gate_dst (N := 2) rfl ?_); refine box_event ?hg (N := 2) ?hd (cs := #[.int .i64 0, .bool false, .int .i64 0, .int .i64 0, .int .i64 0, .int .i64 0]) (t := 23) ?hr ?_; (case hd => rfl); (case hg => rfl); (case hr => first | (go_simp; done) | (go_simp; rfl)); intro gb218 hg w3 hbox hb; have n0_ := Aside0.mk (below_step (by repeat (first | (with_reducible first | exact HB.out | apply below_alloc | apply pw_below_drewN | apply below_drew1) | exact HB.out)) hb); have n1_ := Aside0.mk (hbox); have n2_ := Aside0.mk ((by rw [hg]; exact (below_size (by repeat (first | (with_reducible first | exact HB.out | apply below_alloc | apply pw_below_drewN | apply below_drew1) | exact HB.out))) : w.heap.size ≤ gb218)); have n3_ := Aside0.mk ((by rw [hg]; exact (below_size (by repeat (first | (with_reducible first | exact HB.out | apply below_alloc | apply pw_below_drewN | apply below_drew1) | exact HB.out))) : w.heap.size ≤ gb218)); clear HB; have HB := n0_; have BK218 := n1_; have GW218 := n2_; have GE218 := n3_; clear n0_ n1_ n2_ n3_; clear hb hbox hg; have hcz4_0 : w3.cell? ⟨gb218, 0, none⟩ = some (.int .i64 0) := (blk_cell BK218.out 0).trans rfl; have hcz4_1 : w3.cell? ⟨gb218, 1, none⟩ = some (.bool false) := (blk_cell BK218.out 1).trans rfl; have hcz4_2 : w3.cell? ⟨gb218, 2, none⟩ = some (.int .i64 0) := (blk_cell BK218.out 2).trans rfl; have hcz4_3 : w3.cell? ⟨gb218, 3, none⟩ = some (.int .i64 0) := (blk_cell BK218.out 3).trans rfl; have hcz4_4 : w3.cell? ⟨gb218, 4, none⟩ = some (.int .i64 0) := (blk_cell BK218.out 4).trans rfl; have hcz4_5 : w3.cell? ⟨gb218, 5, none⟩ = some (.int .i64 0) := (blk_cell BK218.out 5).trans rfl; have hfz4_0 := blk_frozen BK218.out 0; have hfz4_1 := blk_frozen BK218.out 1; have hfz4_2 := blk_frozen BK218.out 2; have hfz4_3 := blk_frozen BK218.out 3; have hfz4_4 := blk_frozen BK218.out 4; have hfz4_5 := blk_frozen BK218.out 5))
    refine bodyPost_ret (results_ctt rfl _ _ gb218 23 #[.int .i64 0, .bool false, .int .i64 0, .int .i64 0, .int .i64 0, .int .i64 0] (0, 0) _ rfl (by (with_reducible repeat (first | refine blk_drewN ?_ _ | refine blk_drew ?_ | refine blk_alloc ?_ _)); refine blk_put (cs := #[.int .i64 0, .bool false, .int .i64 0, .int .i64 0, .int .i64 0, .int .i64 0]) ?_ 5 _ rfl; (with_reducible repeat (first | refine blk_drewN ?_ _ | refine blk_drew ?_ | refine blk_alloc ?_ _)); refine blk_put (cs := #[.int .i64 0, .bool false, .int .i64 0, .int .i64 0, .int .i64 0, .int .i64 0]) ?_ 4 _ rfl; (with_reducible repeat (first | refine blk_drewN ?_ _ | refine blk_drew ?_ | refine blk_alloc ?_ _)); refine blk_put (cs := #[.int .i64 0, .bool false, .int .i64 0, .int .i64 0, .int .i64 0, .int .i64 0]) ?_ 3 _ rfl; (with_reducible repeat (first | refine blk_drewN ?_ _ | refine blk_drew ?_ | refine blk_alloc ?_ _)); refine blk_put (cs := #[.int .i64 0, .bool false, .int .i64 0, .int .i64 0, .int .i64 0, .int .i64 0]) ?_ 2 _ rfl; (with_reducible repeat (first | refine blk_drewN ?_ _ | refine blk_drew ?_ | refine blk_alloc ?_ _)); refine blk_put (cs := #[.int .i64 0, .bool false, .int .i64 0, .int .i64 0, .int .i64 0, .int .i64 0]) ?_ 1 _ rfl; (with_reducible repeat (first | refine blk_drewN ?_ _ | refine blk_drew ?_ | refine blk_alloc ?_ _)); refine blk_put (cs := #[.int .i64 0, .bool false, .int .i64 0, .int .i64 0, .int .i64 0, .int .i64 0]) ?_ 0 _ rfl; (with_reducible repeat (first | refine blk_drewN ?_ _ | refine blk_drew ?_ | refine blk_alloc ?_ _)); exact BK218.out) Tryd.underlying23 rfl (by kernel_rfl)) rfl ?_
    exact ⟨by first | rfl | (simp [errW_none, errW_some] <;> rfl) | (simp [*, errW_none, errW_some] <;> rfl), by repeat (first | (with_reducible first | exact HB.out | apply below_alloc | apply pw_below_drewN | apply below_drew1 | refine below_set ?_ GE218.out) | exact HB.out)⟩
  · rw [if_neg c2] at H
    have c2b0 : decide ((l0.length : Int) < 8) = false := decide_eq_false c2
    have c2b1 : decide (l0.length < 8) = false := decide_eq_false (by omega)
    clear c2
    by_cases c5 : 1 < (l0.length : Int)
    · rw [if_pos c5] at H
      have c5b0 : decide (1 < (l0.length : Int)) = true := decide_eq_true c5
      have c5b1 : decide (1 < l0.length) = true := decide_eq_true (by omega)
      clear c5
      by_cases c6 : 2 ≤ 4
      · rw [if_pos c6] at H
        have c6b0 := eq_true c6
        have c6b1 : decide (2 ≤ 4) = true := decide_eq_true c6
        clear c6
        by_cases c7 : 4 ≤ (l0.length : Int)
        · rw [if_pos c7] at H
          have c7b0 := eq_true c7
          have c7b1 : decide (4 ≤ (l0.length : Int)) = true := decide_eq_true c7
          clear c7
          replace H := Option.bind_eq_some_iff.mp H
          obtain ⟨t222, A80, H⟩ := H
          have A8 := Aside0.mk A80
          clear A80
          replace H := Option.bind_eq_some_iff.mp H
          obtain ⟨t223, A90, H⟩ := H
          have A9 := Aside0.mk A90
          clear A90
          by_cases c10 : 4 ≤ 8
          · rw [if_pos c10] at H
            have c10b0 := eq_true c10
            have c10b1 : decide (4 ≤ 8) = true := decide_eq_true c10
            clear c10
            by_cases c11 : 8 ≤ (l0.length : Int)
            · rw [if_pos c11] at H
              have c11b0 := eq_true c11
              have c11b1 : decide (8 ≤ (l0.length : Int)) = true := decide_eq_true c11
              clear c11
              replace H := Option.bind_eq_some_iff.mp H
              obtain ⟨t225, A120, H⟩ := H
              have A12 := Aside0.mk A120
              clear A120
              replace H := Option.bind_eq_some_iff.mp H
              obtain ⟨t226, A130, H⟩ := H
              have A13 := Aside0.mk A130
              clear A130
              by_cases c14 : 0 < (l0.length : Int)
              · rw [if_pos c14] at H
                have c14b0 : decide (0 < (l0.length : Int)) = true := decide_eq_true c14
                have c14b1 : decide (0 < l0.length) = true := decide_eq_true (by omega)
                clear c14
                replace H := Option.bind_eq_some_iff.mp H
                obtain ⟨⟨t228, t229, t230⟩, A150, H⟩ := H
                replace H : (if t230 = true then ((insn_Slots.f t228).bind fun t231 => (if (l0.length : Int) < (wrap64 (t231 * 8)) then (some (0, false, 0, 0, 0, 0, 0, 17)) else (if (mx (wrap64 (Go.bits .and .u8 (rd l0 1) 15)) (wrap64 ((rd l0 1) / 16))) ≥ 11 then (some (0, false, 0, 0, 0, 0, 0, 5)) else ((ops_Fixed.f t228).bind fun bt232 => (if t231 = 2 then (if 8 ≤ 12 then (if 12 ≤ (l0.length : Int) then ((slot_get.f k ((l0.take 12).drop 8)).bind fun t236 => (if t236 = 0 then (if 12 ≤ 16 then (if 16 ≤ (l0.length : Int) then ((slot_get.f k ((l0.take 16).drop 12)).bind fun t238 => ((slot_get.f k ((l0.take 8).drop 4)).bind fun t240 => ((insn_Check.f t228 t229 (wrap64 (Go.bits .and .u8 (rd l0 1) 15)) (wrap64 ((wrap64 ((rd l0 1) / 16)) - bt232.1)) (wrap64 (t223 - bt232.2.1)) (wrap64 (Go.bits .or .u64 (IntKind.u64.wrap (t238 * 4294967296)) t240))).bind fun t241 => (if t241 = 0 then (some (t228, t229, wrap64 (Go.bits .and .u8 (rd l0 1) 15), wrap64 ((wrap64 ((rd l0 1) / 16)) - bt232.1), wrap64 (t223 - bt232.2.1), wrap64 (Go.bits .or .u64 (IntKind.u64.wrap (t238 * 4294967296)) t240), t231, 0)) else (some (0, false, 0, 0, 0, 0, 0, 12)))))) else (none)) else (none)) else (some (0, false, 0, 0, 0, 0, 0, 12)))) else (none)) else (none)) else ((insn_Check.f t228 t229 (wrap64 (Go.bits .and .u8 (rd l0 1) 15)) (wrap64 ((wrap64 ((rd l0 1) / 16)) - bt232.1)) (wrap64 (t223 - bt232.2.1)) (wrap64 (t226 - bt232.2.2))).bind fun t242 => (if t242 = 0 then (some (t228, t229, wrap64 (Go.bits .and .u8 (rd l0 1) 15), wrap64 ((wrap64 ((rd l0 1) / 16)) - bt232.1), wrap64 (t223 - bt232.2.1), wrap64 (t226 - bt232.2.2), t231, 0)) else (some (0, false, 0, 0, 0, 0, 0, 12))))))))) else (some (0, false, 0, 0, 0, 0, 0, 6))) = some (r1, r2, r3, r4, r5, r6, r7, r8) := H
                have A15 := Aside0.mk A150
                clear A150
                have HH := Aside0.mk H
                clear H
                go_enter Tryd.func32, Tryd.ntmps32
                try go_wp2_with (first | ((with_reducible refine gate_dst (N := 2) rfl ?_); refine box_event ?hg (N := 2) ?hd (cs := #[.int .i64 0, .bool false, .int .i64 0, .int .i64 0, .int .i64 0, .int .i64 0]) (t := 23) ?hr ?_; (case hd => rfl); (case hg => rfl); (case hr => first | (go_simp; done) | (go_simp; rfl)); intro gb218 hg w155 hbox hb; have n0_ := Aside0.mk (below_step (by repeat (first | (with_reducible first | exact HB.out | apply below_alloc | apply pw_below_drewN | apply below_drew1) | exact HB.out)) hb); have n1_ := Aside0.mk (hbox); have n2_ := Aside0.mk ((by rw [hg]; exact (below_size (by repeat (first | (with_reducible first | exact HB.out | apply below_alloc | apply pw_below_drewN | apply below_drew1) | exact HB.out))) : w.heap.size ≤ gb218)); have n3_ := Aside0.mk ((by rw [hg]; exact (below_size (by repeat (first | (with_reducible first | exact HB.out | apply below_alloc | apply pw_below_drewN | apply below_drew1) | exact HB.out))) : w.heap.size ≤ gb218)); clear HB; have HB := n0_; have BK218 := n1_; have GW218 := n2_; have GE218 := n3_; clear n0_ n1_ n2_ n3_; clear hb hbox hg))
                have n0_ := Aside0.mk (blk_drew BK218.out)
                have n1_ := Aside0.mk (below_drew1 HB.out)
                clear BK218
                clear HB
                have BK218 := n0_
                have HB := n1_
                clear n0_ n1_
                have p219 : 0 ≤ (1 : Int) := (by omega)
                have q219 : 1 < (l0.length : Int) := of_decide_eq_true (by first | (with_reducible assumption) | assumption)
                obtain ⟨ad219, e219, hx219_0⟩ := Kd.at_int HR0.out 1 p219 q219
                have hw219_0 := hx219_0
                (try rw [show ((1 : Int)).toNat = 1 from rfl] at hw219_0)
                (try rw [show 1 * 1 = 1 from rfl] at hw219_0)
                (try simp only [Nat.reduceMul, Nat.reduceEqDiff, Go.Addr.add, ↓reduceIte] at hw219_0)
                cases e219
                (try simp only [show (1 : Int).toNat = 1 from rfl, Nat.reduceMul, Nat.reduceEqDiff, Go.Addr.add, ↓reduceIte] at hx219_0)
                have qi219 : (1 < l0.length) = True := eq_true (by omega)
                (try rw [show ((1 : Int)).toNat = 1 from rfl] at hx219_0)
                replace hx219_0 := (HB.out.cell (World.block_lt_of_cell? w _ hx219_0)).trans hx219_0
                replace p219 := eq_true p219
                replace q219 := eq_true q219
                have p220 : 0 ≤ (1 : Int) := (by omega)
                have q220 : 1 < (l0.length : Int) := of_decide_eq_true (by first | (with_reducible assumption) | assumption)
                obtain ⟨ad220, e220, hx220_0⟩ := Kd.at_int HR0.out 1 p220 q220
                have hw220_0 := hx220_0
                (try rw [show ((1 : Int)).toNat = 1 from rfl] at hw220_0)
                (try rw [show 1 * 1 = 1 from rfl] at hw220_0)
                (try simp only [Nat.reduceMul, Nat.reduceEqDiff, Go.Addr.add, ↓reduceIte] at hw220_0)
                obtain rfl : ad219 = ad220 := (by injection e220)
                (try simp only [show (1 : Int).toNat = 1 from rfl, Nat.reduceMul, Nat.reduceEqDiff, Go.Addr.add, ↓reduceIte] at hx220_0)
                have qi220 : (1 < l0.length) = True := eq_true (by omega)
                (try rw [show ((1 : Int)).toNat = 1 from rfl] at hx220_0)
                replace hx220_0 := (HB.out.cell (World.block_lt_of_cell? w _ hx220_0)).trans hx220_0
                replace p220 := eq_true p220
                replace q220 := eq_true q220
                refine start_ (n := 12) (S := fun w' => w'.cell? ⟨ad219.block, ad219.off + 1, none⟩ = some (.int .u8 (rd l0 1)) ∧ w'.cell? ⟨ad219.block, ad219.off + 1, none⟩ = some (.int .u8 (rd l0 1))) (ds := []) #[false, false, false, false, false, false, false, false, false, false, false, false] (by kernel_rfl) rfl rfl ⟨((HB.out.cell (World.block_lt_of_cell? w _ hw219_0)).trans hw219_0), ((HB.out.cell (World.block_lt_of_cell? w _ hw220_0)).trans hw220_0)⟩ (fun hHeld => ?_); refine with_tabW slot_Decode.tab3 slot_Decode.bits3 (fun HT_ HW_ => ?_)
                generalize w155.drew = w156 at BK218 HB hx219_0 hx220_0 hHeld ⊢
                refine pure_ (i := 0) (N := some 19) (v := ?_) (a' := ?_) #[true, false, false, false, false, false, false, false, false, false, false, false] rfl rfl (any_of HT_.out (by kernel_rfl)) (fun _ _ _ h => h) (Or.inl ⟨by rfl, ?_⟩) ?_ ?_
                rotate_left
                · intro w'
                  go_simp
                  with_reducible rfl
                rotate_left
                · simp only [Act.put, List.setIfInBounds_toArray, List.set_cons_zero, List.set_cons_succ, i64_w, i32_w]
                  rfl
                refine pure_ (i := 1) (N := some 20) (v := ?_) (a' := ?_) #[true, true, false, false, false, false, false, false, false, false, false, false] rfl rfl (any_of HT_.out (by kernel_rfl)) (fun _ _ _ h => h) (Or.inl ⟨by rfl, ?_⟩) ?_ ?_
                rotate_left
                · intro w'
                  go_simp
                  with_reducible rfl
                rotate_left
                · simp only [Act.put, List.setIfInBounds_toArray, List.set_cons_zero, List.set_cons_succ, i64_w, i32_w]
                  rfl
                refine pure_ (i := 5) (N := some 24) (v := ?_) (a' := ?_) #[true, true, false, false, false, true, false, false, false, false, false, false] rfl rfl (any_of HT_.out (by kernel_rfl)) (fun _ _ _ h => h) (Or.inl ⟨by rfl, ?_⟩) ?_ ?_
                rotate_left
                · intro w'
                  go_simp
                  with_reducible rfl
                rotate_left
                · simp only [Act.put, List.setIfInBounds_toArray, List.set_cons_zero, List.set_cons_succ, i64_w, i32_w]
                  rfl
                refine pure_ (i := 6) (N := some 25) (v := ?_) (a' := ?_) #[true, true, false, false, false, true, true, false, false, false, false, false] rfl rfl (any_of HT_.out (by kernel_rfl)) (fun _ _ _ h => h) (Or.inl ⟨by rfl, ?_⟩) ?_ ?_
                rotate_left
                · intro w'
                  go_simp
                  with_reducible rfl
                rotate_left
                · simp only [Act.put, List.setIfInBounds_toArray, List.set_cons_zero, List.set_cons_succ, i64_w, i32_w]
                  rfl
                refine take_ (i := 2) (N := some 21) (v := ?_) (a' := ?_) #[true, true, true, false, false, true, true, false, false, false, false, false] rfl rfl (take_ofW HT_.out HW_.out (by kernel_rfl)) (fun _ _ _ h => h) (Or.inl ⟨by rfl, ?_⟩) hHeld ?_ ?_
                rotate_left
                · rintro w' ⟨s0, s1⟩
                  go_simp
                  with_reducible rfl
                rotate_left
                · simp only [Act.put, List.setIfInBounds_toArray, List.set_cons_zero, List.set_cons_succ, i64_w, i32_w]
                  rfl
                refine pure_ (i := 3) (N := some 22) (v := ?_) (a' := ?_) #[true, true, true, true, false, true, true, false, false, false, false, false] rfl rfl (any_of HT_.out (by kernel_rfl)) (fun _ _ _ h => h) (Or.inl ⟨by rfl, ?_⟩) ?_ ?_
                rotate_left
                · intro w'
                  go_simp
                  with_reducible rfl
                rotate_left
                · simp only [Act.put, List.setIfInBounds_toArray, List.set_cons_zero, List.set_cons_succ, i64_w, i32_w]
                  rfl
                refine pure_ (i := 4) (N := some 23) (v := ?_) (a' := ?_) #[true, true, true, true, true, true, true, false, false, false, false, false] rfl rfl (any_of HT_.out (by kernel_rfl)) (fun _ _ _ h => h) (Or.inl ⟨by rfl, ?_⟩) ?_ ?_
                rotate_left
                · intro w'
                  go_simp
                  with_reducible rfl
                rotate_left
                · simp only [Act.put, List.setIfInBounds_toArray, List.set_cons_zero, List.set_cons_succ, i64_w, i32_w]
                  rfl
                refine pure_ (i := 10) (N := some 5) (v := ?_) (a' := ?_) #[true, true, true, true, true, true, true, false, false, false, true, false] rfl rfl (any_of HT_.out (by kernel_rfl)) (fun _ _ _ h => h) (Or.inl ⟨by rfl, ?_⟩) ?_ ?_
                rotate_left
                · intro w'
                  go_simp
                  with_reducible rfl
                rotate_left
                · simp only [Act.put, List.setIfInBounds_toArray, List.set_cons_zero, List.set_cons_succ, i64_w, i32_w]
                  rfl
                refine take_ (i := 7) (N := some 26) (v := ?_) (a' := ?_) #[true, true, true, true, true, true, true, true, false, false, true, false] rfl rfl (take_ofW HT_.out HW_.out (by kernel_rfl)) (fun _ _ _ h => h) (Or.inl ⟨by rfl, ?_⟩) hHeld ?_ ?_
                rotate_left
                · rintro w' ⟨s0, s1⟩
                  go_simp
                  with_reducible rfl
                rotate_left
                · simp only [Act.put, List.setIfInBounds_toArray, List.set_cons_zero, List.set_cons_succ, i64_w, i32_w]
                  rfl
                refine pure_ (i := 8) (N := some 27) (v := ?_) (a' := ?_) #[true, true, true, true, true, true, true, true, true, false, true, false] rfl rfl (any_of HT_.out (by kernel_rfl)) (fun _ _ _ h => h) (Or.inl ⟨by rfl, ?_⟩) ?_ ?_
                rotate_left
                · intro w'
                  go_simp
                  with_reducible rfl
                rotate_left
                · simp only [Act.put, List.setIfInBounds_toArray, List.set_cons_zero, List.set_cons_succ, i64_w, i32_w]
                  rfl
                refine pure_ (i := 9) (N := some 28) (v := ?_) (a' := ?_) #[true, true, true, true, true, true, true, true, true, true, true, false] rfl rfl (any_of HT_.out (by kernel_rfl)) (fun _ _ _ h => h) (Or.inl ⟨by rfl, ?_⟩) ?_ ?_
                rotate_left
                · intro w'
                  go_simp
                  with_reducible rfl
                rotate_left
                · simp only [Act.put, List.setIfInBounds_toArray, List.set_cons_zero, List.set_cons_succ, i64_w, i32_w]
                  rfl
                refine pure_ (i := 11) (N := some 6) (v := ?_) (a' := ?_) #[true, true, true, true, true, true, true, true, true, true, true, true] rfl rfl (any_of HT_.out (by kernel_rfl)) (fun _ _ _ h => h) (Or.inl ⟨by rfl, ?_⟩) ?_ ?_
                rotate_left
                · intro w'
                  go_simp
                  with_reducible rfl
                rotate_left
                · simp only [Act.put, List.setIfInBounds_toArray, List.set_cons_zero, List.set_cons_succ, i64_w, i32_w]
                  rfl
                refine done_ (done_of HT_.out (by kernel_rfl)) ?_
                try go_wp2
                have n0_ := Aside0.mk (blk_drew BK218.out)
                have n1_ := Aside0.mk (below_drew1 HB.out)
                clear BK218
                clear HB
                have BK218 := n0_
                have HB := n1_
                clear n0_ n1_
                obtain ⟨i0158, hi0158, _, hsz158, _⟩ := info_parts info5
                obtain ⟨A158, hcut158, hA158, hC158⟩ := print_mid_of (P := Tryd.prog) (Value.int .u8) 0 44 5 .i64 .i64 Tryd.underlying44 hi0158 hsz158 (some ad219) c0 l0 2 4 (by omega) (by first | omega | exact of_decide_eq_true (by first | (with_reducible assumption) | assumption)) (of_decide_eq_true (by first | (with_reducible assumption) | assumption)) HC0.out
                have HR221 := Aside0.mk (Kd.C_of_reads (h1 := fun _ => rfl) (hA158 _ (Kd.reads_of_C HR0.out)))
                have HC221 := Aside0.mk hC158
                clear hA158 hC158 hi0158 hsz158
                obtain ⟨i0159, hi0159, _, hsz159, _⟩ := info_parts info5
                obtain ⟨A159, hcut159, hA159, hC159⟩ := print_mid_of (P := Tryd.prog) (Value.int .u8) 0 44 5 .i64 .i64 Tryd.underlying44 hi0159 hsz159 (some ad219) c0 l0 4 8 (by omega) (by first | omega | exact of_decide_eq_true (by first | (with_reducible assumption) | assumption)) (of_decide_eq_true (by first | (with_reducible assumption) | assumption)) HC0.out
                have HR224 := Aside0.mk (Kd.C_of_reads (h1 := fun _ => rfl) (hA159 _ (Kd.reads_of_C HR0.out)))
                have HC224 := Aside0.mk hC159
                clear hA159 hC159 hi0159 hsz159
                refine start_ (n := 10) (S := fun w' => True) (ds := []) #[false, false, false, false, false, false, false, false, false, false] (by kernel_rfl) rfl rfl trivial (fun hHeld => ?_); refine with_tabW slot_Decode.tab4 slot_Decode.bits4 (fun HT_ HW_ => ?_)
                generalize w156.drew = w157 at BK218 HB HR221 HR224 hHeld ⊢
                refine pure_ (i := 0) (N := some 29) (v := ?_) (a' := ?_) #[true, false, false, false, false, false, false, false, false, false] rfl rfl (any_of HT_.out (by kernel_rfl)) (fun _ _ _ h => h) (Or.inl ⟨by rfl, ?_⟩) ?_ ?_
                rotate_left
                · intro w'
                  go_simp
                  with_reducible rfl
                rotate_left
                · simp only [Act.put, List.setIfInBounds_toArray, List.set_cons_zero, List.set_cons_succ, i64_w, i32_w]
                  rfl
                refine pure_ (i := 1) (N := some 30) (v := ?_) (a' := ?_) #[true, true, false, false, false, false, false, false, false, false] rfl rfl (any_of HT_.out (by kernel_rfl)) (fun _ _ _ h => h) (Or.inl ⟨by rfl, ?_⟩) ?_ ?_
                rotate_left
                · intro w'
                  go_simp
                  with_reducible rfl
                rotate_left
                · simp only [Act.put, List.setIfInBounds_toArray, List.set_cons_zero, List.set_cons_succ, i64_w, i32_w]
                  rfl
                refine pure_ (i := 4) (N := some 33) (v := ?_) (a' := ?_) #[true, true, false, false, true, false, false, false, false, false] rfl rfl (any_of HT_.out (by kernel_rfl)) (fun _ _ _ h => h) (Or.inl ⟨by rfl, ?_⟩) ?_ ?_
                rotate_left
                · intro w'
                  go_simp
                  with_reducible rfl
                rotate_left
                · simp only [Act.put, List.setIfInBounds_toArray, List.set_cons_zero, List.set_cons_succ, i64_w, i32_w]
                  rfl
                refine pure_ (i := 5) (N := some 34) (v := ?_) (a' := ?_) #[true, true, false, false, true, true, false, false, false, false] rfl rfl (any_of HT_.out (by kernel_rfl)) (fun _ _ _ h => h) (Or.inl ⟨by rfl, ?_⟩) ?_ ?_
                rotate_left
                · intro w'
                  go_simp
                  with_reducible rfl
                rotate_left
                · simp only [Act.put, List.setIfInBounds_toArray, List.set_cons_zero, List.set_cons_succ, i64_w, i32_w]
                  rfl
                refine one_ (i := 2) (N := some 31) #[true, true, true, false, true, true, false, false, false, false] rfl rfl (one_of HT_.out (by kernel_rfl)) (by decide) (fun K hK => ?_)
                refine goes_ Tryd.func69 (by kernel_rfl) rfl #[.slice A158 ((l0.take 4).drop 2).length (c0 - 2)] (by rfl) rfl rfl (by (try simp only [List.map_toArray, List.map_cons, List.map_nil]); first | done | (rw [show ((l0.take 4).drop 2).length = (4 - 2) from (by rw [List.length_drop, List.length_take]; have h_ : (4 : Int) ≤ (l0.length : Int) := of_decide_eq_true (by first | (with_reducible assumption) | assumption); omega)] <;> rfl) | rfl | (simp only [List.length_drop, List.length_take]; rfl)) ?_
                with_reducible refine (slot_get.calls k _ _ ((l0.take 4).drop 2) t222 _ ?side1 ?side2 A8.out).mono ?_
                (case side1 => repeat (first | exact (Kd.C_below HR221.out HB.out) | (with_reducible refine Kd.C_alloc ?_ _) | (with_reducible refine Kd.C_drewN ?_ _) | (with_reducible refine Kd.C_drew ?_)))
                (case side2 => exact HC221.out)
                rintro e w160 ⟨rfl, hb⟩
                refine ⟨_, rfl, ?_⟩
                have n0_ := Aside0.mk (blk_below (g := gb218) (o := .cells #[.int .i64 0, .bool false, .int .i64 0, .int .i64 0, .int .i64 0, .int .i64 0] 23 (0, 0)) (by (with_reducible repeat (first | refine blk_drewN ?_ _ | refine blk_drew ?_ | refine blk_alloc ?_ _)); exact BK218.out) hb)
                have n1_ := Aside0.mk (below_step (by repeat (first | (with_reducible first | exact HB.out | apply below_alloc | apply pw_below_drewN | apply below_drew1 | refine below_set ?_ GE218.out) | exact HB.out)) hb)
                clear BK218
                clear HB
                have BK218 := n0_
                have HB := n1_
                clear n0_ n1_
                (try clear hb)
                (try clear hb2)
                (try clear hk)
                (try clear hi)
                refine hK.out _ _ trivial (fun hHeld => ?_)
                clear hK K
                refine norm_ (a' := ?_) ?_ ?_
                rotate_left
                · show Act.put _ (some 31) _ = _
                  simp only [Act.put, List.setIfInBounds_toArray, List.set_cons_zero, List.set_cons_succ, i64_w, i32_w]
                  rfl
                refine one_ (i := 3) (N := some 32) #[true, true, true, true, true, true, false, false, false, false] rfl rfl (one_of HT_.out (by kernel_rfl)) (by decide) (fun K hK => ?_)
                refine goes_ Tryd.func46 (by kernel_rfl) rfl #[.int .u64 t222, .int .i64 16] (by rfl) rfl rfl (by (try simp only [List.map_toArray, List.map_cons, List.map_nil]); first | done | rfl | (simp only [List.length_drop, List.length_take]; rfl)) ?_
                with_reducible refine (num_Extend.calls t222 16 t223 _ A9.out (G_at hG (by repeat (first | (with_reducible first | exact HB.out | apply below_alloc | apply pw_below_drewN | apply below_drew1 | refine below_set ?_ GE218.out) | exact HB.out)))).mono ?_
                rintro e w161 ⟨rfl, hb⟩
                refine ⟨_, rfl, ?_⟩
                have n0_ := Aside0.mk (blk_below (g := gb218) (o := .cells #[.int .i64 0, .bool false, .int .i64 0, .int .i64 0, .int .i64 0, .int .i64 0] 23 (0, 0)) (by (with_reducible repeat (first | refine blk_drewN ?_ _ | refine blk_drew ?_ | refine blk_alloc ?_ _)); exact BK218.out) hb)
                have n1_ := Aside0.mk (below_step (by repeat (first | (with_reducible first | exact HB.out | apply below_alloc | apply pw_below_drewN | apply below_drew1 | refine below_set ?_ GE218.out) | exact HB.out)) hb)
                clear BK218
                clear HB
                have BK218 := n0_
                have HB := n1_
                clear n0_ n1_
                (try clear hb)
                (try clear hb2)
                (try clear hk)
                (try clear hi)
                refine hK.out _ _ trivial (fun hHeld => ?_)
                clear hK K
                refine norm_ (a' := ?_) ?_ ?_
                rotate_left
                · show Act.put _ (some 32) _ = _
                  simp only [Act.put, List.setIfInBounds_toArray, List.set_cons_zero, List.set_cons_succ, i64_w, i32_w]
                  rfl
                refine one_ (i := 6) (N := some 35) #[true, true, true, true, true, true, true, false, false, false] rfl rfl (one_of HT_.out (by kernel_rfl)) (by decide) (fun K hK => ?_)
                refine goes_ Tryd.func69 (by kernel_rfl) rfl #[.slice A159 ((l0.take 8).drop 4).length (c0 - 4)] (by rfl) rfl rfl (by (try simp only [List.map_toArray, List.map_cons, List.map_nil]); first | done | (rw [show ((l0.take 8).drop 4).length = (8 - 4) from (by rw [List.length_drop, List.length_take]; have h_ : (8 : Int) ≤ (l0.length : Int) := of_decide_eq_true (by first | (with_reducible assumption) | assumption); omega)] <;> rfl) | rfl | (simp only [List.length_drop, List.length_take]; rfl)) ?_
                with_reducible refine (slot_get.calls k _ _ ((l0.take 8).drop 4) t225 _ ?side1 ?side2 A12.out).mono ?_
                (case side1 => repeat (first | exact (Kd.C_below HR224.out HB.out) | (with_reducible refine Kd.C_alloc ?_ _) | (with_reducible refine Kd.C_drewN ?_ _) | (with_reducible refine Kd.C_drew ?_)))
                (case side2 => exact HC224.out)
                rintro e w162 ⟨rfl, hb⟩
                refine ⟨_, rfl, ?_⟩
                have n0_ := Aside0.mk (blk_below (g := gb218) (o := .cells #[.int .i64 0, .bool false, .int .i64 0, .int .i64 0, .int .i64 0, .int .i64 0] 23 (0, 0)) (by (with_reducible repeat (first | refine blk_drewN ?_ _ | refine blk_drew ?_ | refine blk_alloc ?_ _)); exact BK218.out) hb)
                have n1_ := Aside0.mk (below_step (by repeat (first | (with_reducible first | exact HB.out | apply below_alloc | apply pw_below_drewN | apply below_drew1 | refine below_set ?_ GE218.out) | exact HB.out)) hb)
                clear BK218
                clear HB
                have BK218 := n0_
                have HB := n1_
                clear n0_ n1_
                (try clear hb)
                (try clear hb2)
                (try clear hk)
                (try clear hi)
                refine hK.out _ _ trivial (fun hHeld => ?_)
                clear hK K
                refine norm_ (a' := ?_) ?_ ?_
                rotate_left
                · show Act.put _ (some 35) _ = _
                  simp only [Act.put, List.setIfInBounds_toArray, List.set_cons_zero, List.set_cons_succ, i64_w, i32_w]
                  rfl
                refine one_ (i := 7) (N := some 36) #[true, true, true, true, true, true, true, true, false, false] rfl rfl (one_of HT_.out (by kernel_rfl)) (by decide) (fun K hK => ?_)
                refine goes_ Tryd.func46 (by kernel_rfl) rfl #[.int .u64 t225, .int .i64 32] (by rfl) rfl rfl (by (try simp only [List.map_toArray, List.map_cons, List.map_nil]); first | done | rfl | (simp only [List.length_drop, List.length_take]; rfl)) ?_
                with_reducible refine (num_Extend.calls t225 32 t226 _ A13.out (G_at hG (by repeat (first | (with_reducible first | exact HB.out | apply below_alloc | apply pw_below_drewN | apply below_drew1 | refine below_set ?_ GE218.out) | exact HB.out)))).mono ?_
                rintro e w163 ⟨rfl, hb⟩
                refine ⟨_, rfl, ?_⟩
                have n0_ := Aside0.mk (blk_below (g := gb218) (o := .cells #[.int .i64 0, .bool false, .int .i64 0, .int .i64 0, .int .i64 0, .int .i64 0] 23 (0, 0)) (by (with_reducible repeat (first | refine blk_drewN ?_ _ | refine blk_drew ?_ | refine blk_alloc ?_ _)); exact BK218.out) hb)
                have n1_ := Aside0.mk (below_step (by repeat (first | (with_reducible first | exact HB.out | apply below_alloc | apply pw_below_drewN | apply below_drew1 | refine below_set ?_ GE218.out) | exact HB.out)) hb)
                clear BK218
                clear HB
                have BK218 := n0_
                have HB := n1_
                clear n0_ n1_
                (try clear hb)
                (try clear hb2)
                (try clear hk)
                (try clear hi)
                refine hK.out _ _ trivial (fun hHeld => ?_)
                clear hK K
                refine norm_ (a' := ?_) ?_ ?_
                rotate_left
                · show Act.put _ (some 36) _ = _
                  simp only [Act.put, List.setIfInBounds_toArray, List.set_cons_zero, List.set_cons_succ, i64_w, i32_w]
                  rfl
                refine pure_ (i := 8) (N := some 7) (v := ?_) (a' := ?_) #[true, true, true, true, true, true, true, true, true, false] rfl rfl (any_of HT_.out (by kernel_rfl)) (fun _ _ _ h => h) (Or.inl ⟨by rfl, ?_⟩) ?_ ?_
                rotate_left
                · intro w'
                  go_simp
                  with_reducible rfl
                rotate_left
                · simp only [Act.put, List.setIfInBounds_toArray, List.set_cons_zero, List.set_cons_succ, i64_w, i32_w]
                  rfl
                refine pure_ (i := 9) (N := some 8) (v := ?_) (a' := ?_) #[true, true, true, true, true, true, true, true, true, true] rfl rfl (any_of HT_.out (by kernel_rfl)) (fun _ _ _ h => h) (Or.inl ⟨by rfl, ?_⟩) ?_ ?_
                rotate_left
                · intro w'
                  go_simp
                  with_reducible rfl
                rotate_left
                · simp only [Act.put, List.setIfInBounds_toArray, List.set_cons_zero, List.set_cons_succ, i64_w, i32_w]
                  rfl
                refine done_ (done_of HT_.out (by kernel_rfl)) ?_
                clear hcut158 hcut159
                have H := HH.out
                clear HH
                by_cases c16 : t230 = true
                · subst c16
                  have H1 : ((insn_Slots.f t228).bind fun t231 => (if (l0.length : Int) < (wrap64 (t231 * 8)) then (some (0, false, 0, 0, 0, 0, 0, 17)) else (if (mx (wrap64 (Go.bits .and .u8 (rd l0 1) 15)) (wrap64 ((rd l0 1) / 16))) ≥ 11 then (some (0, false, 0, 0, 0, 0, 0, 5)) else ((ops_Fixed.f t228).bind fun bt232 => (if t231 = 2 then (if 8 ≤ 12 then (if 12 ≤ (l0.length : Int) then ((slot_get.f k ((l0.take 12).drop 8)).bind fun t236 => (if t236 = 0 then (if 12 ≤ 16 then (if 16 ≤ (l0.length : Int) then ((slot_get.f k ((l0.take 16).drop 12)).bind fun t238 => ((slot_get.f k ((l0.take 8).drop 4)).bind fun t240 => ((insn_Check.f t228 t229 (wrap64 (Go.bits .and .u8 (rd l0 1) 15)) (wrap64 ((wrap64 ((rd l0 1) / 16)) - bt232.1)) (wrap64 (t223 - bt232.2.1)) (wrap64 (Go.bits .or .u64 (IntKind.u64.wrap (t238 * 4294967296)) t240))).bind fun t241 => (if t241 = 0 then (some (t228, t229, wrap64 (Go.bits .and .u8 (rd l0 1) 15), wrap64 ((wrap64 ((rd l0 1) / 16)) - bt232.1), wrap64 (t223 - bt232.2.1), wrap64 (Go.bits .or .u64 (IntKind.u64.wrap (t238 * 4294967296)) t240), t231, 0)) else (some (0, false, 0, 0, 0, 0, 0, 12)))))) else (none)) else (none)) else (some (0, false, 0, 0, 0, 0, 0, 12)))) else (none)) else (none)) else ((insn_Check.f t228 t229 (wrap64 (Go.bits .and .u8 (rd l0 1) 15)) (wrap64 ((wrap64 ((rd l0 1) / 16)) - bt232.1)) (wrap64 (t223 - bt232.2.1)) (wrap64 (t226 - bt232.2.2))).bind fun t242 => (if t242 = 0 then (some (t228, t229, wrap64 (Go.bits .and .u8 (rd l0 1) 15), wrap64 ((wrap64 ((rd l0 1) / 16)) - bt232.1), wrap64 (t223 - bt232.2.1), wrap64 (t226 - bt232.2.2), t231, 0)) else (some (0, false, 0, 0, 0, 0, 0, 12))))))))) = some (r1, r2, r3, r4, r5, r6, r7, r8) := by rw [if_pos rfl] at H; exact H
                  clear H
                  have H := H1
                  clear H1
                  replace H := Option.bind_eq_some_iff.mp H
                  obtain ⟨t231, A170, H⟩ := H
                  have A17 := Aside0.mk A170
                  clear A170
                  by_cases c18 : (l0.length : Int) < (wrap64 (t231 * 8))
                  · rw [if_pos c18] at H
                    have c18b0 : decide ((l0.length : Int) < (wrap64 (t231 * 8))) = true := decide_eq_true c18
                    clear c18
                    simp only [Option.some.injEq, Prod.mk.injEq] at H
                    obtain ⟨rfl, rfl, rfl, rfl, rfl, rfl, rfl, rfl⟩ := H
                    have p227 : 0 ≤ (0 : Int) := (by omega)
                    have q227 : 0 < (l0.length : Int) := of_decide_eq_true (by first | (with_reducible assumption) | assumption)
                    obtain ⟨ad227, e227, hx227_0⟩ := Kd.at_int HR0.out 0 p227 q227
                    obtain rfl : ad219 = ad227 := (by injection e227)
                    have qi227 : (0 < l0.length) = True := eq_true (by omega)
                    (try rw [show ((0 : Int)).toNat = 0 from rfl] at hx227_0)
                    (try rw [Addr.add_zero'] at hx227_0)
                    replace hx227_0 := (HB.out.cell (World.block_lt_of_cell? w _ hx227_0)).trans hx227_0
                    replace p227 := eq_true p227
                    replace q227 := eq_true q227
                    try go_wp2_with (first | ((with_reducible refine gate_callee (f := 70) rfl ?_); refine goesL_ (some 44) rfl rfl Tryd.func70 (by kernel_rfl) rfl #[.int .u8 (rd l0 0), .int .i64 (wrap64 ((rd l0 1) / 16)), .int .i64 t223, .int .i64 t226] rfl (by (try simp only [List.map_toArray, List.map_cons, List.map_nil]); first | done | rfl | (simp only [List.length_drop, List.length_take]; rfl)) ?_; (with_reducible refine (ops_Identify.calls (rd l0 0) (wrap64 ((rd l0 1) / 16)) t223 t226 t228 t229 true _ A15.out (G_at hG (by repeat (first | (with_reducible first | exact HB.out | apply below_alloc | apply pw_below_drewN | apply below_drew1 | refine below_set ?_ GE218.out) | exact HB.out)))).mono ?_); rintro e w28 ⟨rfl, hb⟩; refine ⟨_, rfl, ?_⟩; have n0_ := Aside0.mk (blk_below (g := gb218) (o := .cells #[.int .i64 0, .bool false, .int .i64 0, .int .i64 0, .int .i64 0, .int .i64 0] 23 (0, 0)) (by (with_reducible repeat (first | refine blk_drewN ?_ _ | refine blk_drew ?_ | refine blk_alloc ?_ _)); exact BK218.out) hb); have n1_ := Aside0.mk (below_step (by repeat (first | (with_reducible first | exact HB.out | apply below_alloc | apply pw_below_drewN | apply below_drew1 | refine below_set ?_ GE218.out) | exact HB.out)) hb); clear BK218; clear HB; have BK218 := n0_; have HB := n1_; clear n0_ n1_; (try clear hb); (try clear hb2); (try clear hk); (try clear hi)) | ((with_reducible refine gate_callee (f := 59) rfl ?_); refine goesL_ (some 52) rfl rfl Tryd.func59 (by kernel_rfl) rfl #[.int .i64 t228] rfl (by (try simp only [List.map_toArray, List.map_cons, List.map_nil]); first | done | rfl | (simp only [List.length_drop, List.length_take]; rfl)) ?_; (with_reducible refine (insn_Slots.calls t228 t231 _ A17.out (G_at hG (by repeat (first | (with_reducible first | exact HB.out | apply below_alloc | apply pw_below_drewN | apply below_drew1 | refine below_set ?_ GE218.out) | exact HB.out)))).mono ?_); rintro e w29 ⟨rfl, hb⟩; refine ⟨_, rfl, ?_⟩; have n0_ := Aside0.mk (blk_below (g := gb218) (o := .cells #[.int .i64 0, .bool false, .int .i64 0, .int .i64 0, .int .i64 0, .int .i64 0] 23 (0, 0)) (by (with_reducible repeat (first | refine blk_drewN ?_ _ | refine blk_drew ?_ | refine blk_alloc ?_ _)); exact BK218.out) hb); have n1_ := Aside0.mk (below_step (by repeat (first | (with_reducible first | exact HB.out | apply below_alloc | apply pw_below_drewN | apply below_drew1 | refine below_set ?_ GE218.out) | exact HB.out)) hb); clear BK218; clear HB; have BK218 := n0_; have HB := n1_; clear n0_ n1_; (try clear hb); (try clear hb2); (try clear hk); (try clear hi); have hcz30_0 : w29.cell? ⟨gb218, 0, none⟩ = some (.int .i64 0) := (blk_cell BK218.out 0).trans rfl; have hcz30_1 : w29.cell? ⟨gb218, 1, none⟩ = some (.bool false) := (blk_cell BK218.out 1).trans rfl; have hcz30_2 : w29.cell? ⟨gb218, 2, none⟩ = some (.int .i64 0) := (blk_cell BK218.out 2).trans rfl; have hcz30_3 : w29.cell? ⟨gb218, 3, none⟩ = some (.int .i64 0) := (blk_cell BK218.out 3).trans rfl; have hcz30_4 : w29.cell? ⟨gb218, 4, none⟩ = some (.int .i64 0) := (blk_cell BK218.out 4).trans rfl; have hcz30_5 : w29.cell? ⟨gb218, 5, none⟩ = some (.int .i64 0) := (blk_cell BK218.out 5).trans rfl; have hfz30_0 := blk_frozen BK218.out 0; have hfz30_1 := blk_frozen BK218.out 1; have hfz30_2 := blk_frozen BK218.out 2; have hfz30_3 := blk_frozen BK218.out 3; have hfz30_4 := blk_frozen BK218.out 4; have hfz30_5 := blk_frozen BK218.out 5))
                    refine bodyPost_ret (results_ctt rfl _ _ gb218 23 #[.int .i64 0, .bool false, .int .i64 0, .int .i64 0, .int .i64 0, .int .i64 0] (0, 0) _ rfl (by (with_reducible repeat (first | refine blk_drewN ?_ _ | refine blk_drew ?_ | refine blk_alloc ?_ _)); refine blk_put (cs := #[.int .i64 0, .bool false, .int .i64 0, .int .i64 0, .int .i64 0, .int .i64 0]) ?_ 5 _ rfl; (with_reducible repeat (first | refine blk_drewN ?_ _ | refine blk_drew ?_ | refine blk_alloc ?_ _)); refine blk_put (cs := #[.int .i64 0, .bool false, .int .i64 0, .int .i64 0, .int .i64 0, .int .i64 0]) ?_ 4 _ rfl; (with_reducible repeat (first | refine blk_drewN ?_ _ | refine blk_drew ?_ | refine blk_alloc ?_ _)); refine blk_put (cs := #[.int .i64 0, .bool false, .int .i64 0, .int .i64 0, .int .i64 0, .int .i64 0]) ?_ 3 _ rfl; (with_reducible repeat (first | refine blk_drewN ?_ _ | refine blk_drew ?_ | refine blk_alloc ?_ _)); refine blk_put (cs := #[.int .i64 0, .bool false, .int .i64 0, .int .i64 0, .int .i64 0, .int .i64 0]) ?_ 2 _ rfl; (with_reducible repeat (first | refine blk_drewN ?_ _ | refine blk_drew ?_ | refine blk_alloc ?_ _)); refine blk_put (cs := #[.int .i64 0, .bool false, .int .i64 0, .int .i64 0, .int .i64 0, .int .i64 0]) ?_ 1 _ rfl; (with_reducible repeat (first | refine blk_drewN ?_ _ | refine blk_drew ?_ | refine blk_alloc ?_ _)); refine blk_put (cs := #[.int .i64 0, .bool false, .int .i64 0, .int .i64 0, .int .i64 0, .int .i64 0]) ?_ 0 _ rfl; (with_reducible repeat (first | refine blk_drewN ?_ _ | refine blk_drew ?_ | refine blk_alloc ?_ _)); exact BK218.out) Tryd.underlying23 rfl (by kernel_rfl)) rfl ?_
                    exact ⟨by first | rfl | (simp [errW_none, errW_some] <;> rfl) | (simp [*, errW_none, errW_some] <;> rfl), by repeat (first | (with_reducible first | exact HB.out | apply below_alloc | apply pw_below_drewN | apply below_drew1 | refine below_set ?_ GE218.out) | exact HB.out)⟩
                  · rw [if_neg c18] at H
                    have c18b0 : decide ((l0.length : Int) < (wrap64 (t231 * 8))) = false := decide_eq_false c18
                    clear c18
                    obtain ⟨ji31, hji31⟩ : ∃ j_ : Int, (mx (wrap64 (Go.bits .and .u8 (rd l0 1) 15)) (wrap64 ((rd l0 1) / 16))) = j_ := ⟨_, rfl⟩
                    replace H : (if (ji31) ≥ 11 then (some (0, false, 0, 0, 0, 0, 0, 5)) else ((ops_Fixed.f t228).bind fun bt232 => (if t231 = 2 then (if 8 ≤ 12 then (if 12 ≤ (l0.length : Int) then ((slot_get.f k ((l0.take 12).drop 8)).bind fun t236 => (if t236 = 0 then (if 12 ≤ 16 then (if 16 ≤ (l0.length : Int) then ((slot_get.f k ((l0.take 16).drop 12)).bind fun t238 => ((slot_get.f k ((l0.take 8).drop 4)).bind fun t240 => ((insn_Check.f t228 t229 (wrap64 (Go.bits .and .u8 (rd l0 1) 15)) (wrap64 ((wrap64 ((rd l0 1) / 16)) - bt232.1)) (wrap64 (t223 - bt232.2.1)) (wrap64 (Go.bits .or .u64 (IntKind.u64.wrap (t238 * 4294967296)) t240))).bind fun t241 => (if t241 = 0 then (some (t228, t229, wrap64 (Go.bits .and .u8 (rd l0 1) 15), wrap64 ((wrap64 ((rd l0 1) / 16)) - bt232.1), wrap64 (t223 - bt232.2.1), wrap64 (Go.bits .or .u64 (IntKind.u64.wrap (t238 * 4294967296)) t240), t231, 0)) else (some (0, false, 0, 0, 0, 0, 0, 12)))))) else (none)) else (none)) else (some (0, false, 0, 0, 0, 0, 0, 12)))) else (none)) else (none)) else ((insn_Check.f t228 t229 (wrap64 (Go.bits .and .u8 (rd l0 1) 15)) (wrap64 ((wrap64 ((rd l0 1) / 16)) - bt232.1)) (wrap64 (t223 - bt232.2.1)) (wrap64 (t226 - bt232.2.2))).bind fun t242 => (if t242 = 0 then (some (t228, t229, wrap64 (Go.bits .and .u8 (rd l0 1) 15), wrap64 ((wrap64 ((rd l0 1) / 16)) - bt232.1), wrap64 (t223 - bt232.2.1), wrap64 (t226 - bt232.2.2), t231, 0)) else (some (0, false, 0, 0, 0, 0, 0, 12))))))) = some (r1, r2, r3, r4, r5, r6, r7, r8) := by first | (rw [hji31] at H; exact H) | (simp only [hji31] at H ⊢; exact H)
                    (try rw [hji31] at A8)
                    (try rw [hji31] at A9)
                    (try rw [hji31] at A12)
                    (try rw [hji31] at A13)
                    (try rw [hji31] at A15)
                    (try rw [hji31] at A17)
                    have hji31_ : (if (wrap64 (Go.bits .and .u8 (rd l0 1) 15)) < (wrap64 ((rd l0 1) / 16)) then (wrap64 ((rd l0 1) / 16)) else (wrap64 (Go.bits .and .u8 (rd l0 1) 15))) = ji31 := hji31
                    by_cases c32 : (ji31) ≥ 11
                    · rw [if_pos c32] at H
                      have c32b0 : decide (11 ≤ (ji31)) = true := decide_eq_true c32
                      clear c32
                      simp only [Option.some.injEq, Prod.mk.injEq] at H
                      obtain ⟨rfl, rfl, rfl, rfl, rfl, rfl, rfl, rfl⟩ := H
                      have p227 : 0 ≤ (0 : Int) := (by omega)
                      have q227 : 0 < (l0.length : Int) := of_decide_eq_true (by first | (with_reducible assumption) | assumption)
                      obtain ⟨ad227, e227, hx227_0⟩ := Kd.at_int HR0.out 0 p227 q227
                      obtain rfl : ad219 = ad227 := (by injection e227)
                      have qi227 : (0 < l0.length) = True := eq_true (by omega)
                      (try rw [show ((0 : Int)).toNat = 0 from rfl] at hx227_0)
                      (try rw [Addr.add_zero'] at hx227_0)
                      replace hx227_0 := (HB.out.cell (World.block_lt_of_cell? w _ hx227_0)).trans hx227_0
                      replace p227 := eq_true p227
                      replace q227 := eq_true q227
                      try go_wp2_with (first | ((with_reducible refine gate_callee (f := 70) rfl ?_); refine goesL_ (some 44) rfl rfl Tryd.func70 (by kernel_rfl) rfl #[.int .u8 (rd l0 0), .int .i64 (wrap64 ((rd l0 1) / 16)), .int .i64 t223, .int .i64 t226] rfl (by (try simp only [List.map_toArray, List.map_cons, List.map_nil]); first | done | rfl | (simp only [List.length_drop, List.length_take]; rfl)) ?_; (with_reducible refine (ops_Identify.calls (rd l0 0) (wrap64 ((rd l0 1) / 16)) t223 t226 t228 t229 true _ A15.out (G_at hG (by repeat (first | (with_reducible first | exact HB.out | apply below_alloc | apply pw_below_drewN | apply below_drew1 | refine below_set ?_ GE218.out) | exact HB.out)))).mono ?_); rintro e w42 ⟨rfl, hb⟩; refine ⟨_, rfl, ?_⟩; have n0_ := Aside0.mk (blk_below (g := gb218) (o := .cells #[.int .i64 0, .bool false, .int .i64 0, .int .i64 0, .int .i64 0, .int .i64 0] 23 (0, 0)) (by (with_reducible repeat (first | refine blk_drewN ?_ _ | refine blk_drew ?_ | refine blk_alloc ?_ _)); exact BK218.out) hb); have n1_ := Aside0.mk (below_step (by repeat (first | (with_reducible first | exact HB.out | apply below_alloc | apply pw_below_drewN | apply below_drew1 | refine below_set ?_ GE218.out) | exact HB.out)) hb); clear BK218; clear HB; have BK218 := n0_; have HB := n1_; clear n0_ n1_; (try clear hb); (try clear hb2); (try clear hk); (try clear hi)) | ((with_reducible refine gate_callee (f := 59) rfl ?_); refine goesL_ (some 52) rfl rfl Tryd.func59 (by kernel_rfl) rfl #[.int .i64 t228] rfl (by (try simp only [List.map_toArray, List.map_cons, List.map_nil]); first | done | rfl | (simp only [List.length_drop, List.length_take]; rfl)) ?_; (with_reducible refine (insn_Slots.calls t228 t231 _ A17.out (G_at hG (by repeat (first | (with_reducible first | exact HB.out | apply below_alloc | apply pw_below_drewN | apply below_drew1 | refine below_set ?_ GE218.out) | exact HB.out)))).mono ?_); rintro e w43 ⟨rfl, hb⟩; refine ⟨_, rfl, ?_⟩; have n0_ := Aside0.mk (blk_below (g := gb218) (o := .cells #[.int .i64 0, .bool false, .int .i64 0, .int .i64 0, .int .i64 0, .int .i64 0] 23 (0, 0)) (by (with_reducible repeat (first | refine blk_drewN ?_ _ | refine blk_drew ?_ | refine blk_alloc ?_ _)); exact BK218.out) hb); have n1_ := Aside0.mk (below_step (by repeat (first | (with_reducible first | exact HB.out | apply below_alloc | apply pw_below_drewN | apply below_drew1 | refine below_set ?_ GE218.out) | exact HB.out)) hb); clear BK218; clear HB; have BK218 := n0_; have HB := n1_; clear n0_ n1_; (try clear hb); (try clear hb2); (try clear hk); (try clear hi); have hcz44_0 : w43.cell? ⟨gb218, 0, none⟩ = some (.int .i64 0) := (blk_cell BK218.out 0).trans rfl; have hcz44_1 : w43.cell? ⟨gb218, 1, none⟩ = some (.bool false) := (blk_cell BK218.out 1).trans rfl; have hcz44_2 : w43.cell? ⟨gb218, 2, none⟩ = some (.int .i64 0) := (blk_cell BK218.out 2).trans rfl; have hcz44_3 : w43.cell? ⟨gb218, 3, none⟩ = some (.int .i64 0) := (blk_cell BK218.out 3).trans rfl; have hcz44_4 : w43.cell? ⟨gb218, 4, none⟩ = some (.int .i64 0) := (blk_cell BK218.out 4).trans rfl; have hcz44_5 : w43.cell? ⟨gb218, 5, none⟩ = some (.int .i64 0) := (blk_cell BK218.out 5).trans rfl; have hfz44_0 := blk_frozen BK218.out 0; have hfz44_1 := blk_frozen BK218.out 1; have hfz44_2 := blk_frozen BK218.out 2; have hfz44_3 := blk_frozen BK218.out 3; have hfz44_4 := blk_frozen BK218.out 4; have hfz44_5 := blk_frozen BK218.out 5))
                      refine bodyPost_ret (results_ctt rfl _ _ gb218 23 #[.int .i64 0, .bool false, .int .i64 0, .int .i64 0, .int .i64 0, .int .i64 0] (0, 0) _ rfl (by (with_reducible repeat (first | refine blk_drewN ?_ _ | refine blk_drew ?_ | refine blk_alloc ?_ _)); refine blk_put (cs := #[.int .i64 0, .bool false, .int .i64 0, .int .i64 0, .int .i64 0, .int .i64 0]) ?_ 5 _ rfl; (with_reducible repeat (first | refine blk_drewN ?_ _ | refine blk_drew ?_ | refine blk_alloc ?_ _)); refine blk_put (cs := #[.int .i64 0, .bool false, .int .i64 0, .int .i64 0, .int .i64 0, .int .i64 0]) ?_ 4 _ rfl; (with_reducible repeat (first | refine blk_drewN ?_ _ | refine blk_drew ?_ | refine blk_alloc ?_ _)); refine blk_put (cs := #[.int .i64 0, .bool false, .int .i64 0, .int .i64 0, .int .i64 0, .int .i64 0]) ?_ 3 _ rfl; (with_reducible repeat (first | refine blk_drewN ?_ _ | refine blk_drew ?_ | refine blk_alloc ?_ _)); refine blk_put (cs := #[.int .i64 0, .bool false, .int .i64 0, .int .i64 0, .int .i64 0, .int .i64 0]) ?_ 2 _ rfl; (with_reducible repeat (first | refine blk_drewN ?_ _ | refine blk_drew ?_ | refine blk_alloc ?_ _)); refine blk_put (cs := #[.int .i64 0, .bool false, .int .i64 0, .int .i64 0, .int .i64 0, .int .i64 0]) ?_ 1 _ rfl; (with_reducible repeat (first | refine blk_drewN ?_ _ | refine blk_drew ?_ | refine blk_alloc ?_ _)); refine blk_put (cs := #[.int .i64 0, .bool false, .int .i64 0, .int .i64 0, .int .i64 0, .int .i64 0]) ?_ 0 _ rfl; (with_reducible repeat (first | refine blk_drewN ?_ _ | refine blk_drew ?_ | refine blk_alloc ?_ _)); exact BK218.out) Tryd.underlying23 rfl (by kernel_rfl)) rfl ?_
                      exact ⟨by first | rfl | (simp [errW_none, errW_some] <;> rfl) | (simp only [← hji31]; first | rfl | (simp [errW_none, errW_some] <;> rfl)) | (simp [*, errW_none, errW_some] <;> rfl), by repeat (first | (with_reducible first | exact HB.out | apply below_alloc | apply pw_below_drewN | apply below_drew1 | refine below_set ?_ GE218.out) | exact HB.out)⟩
                    · rw [if_neg c32] at H
                      have c32b0 : decide (11 ≤ (ji31)) = false := decide_eq_false c32
                      clear c32
                      replace H := Option.bind_eq_some_iff.mp H
                      obtain ⟨⟨t232, t233, t234⟩, A450, H⟩ := H
                      replace H : (if t231 = 2 then (if 8 ≤ 12 then (if 12 ≤ (l0.length : Int) then ((slot_get.f k ((l0.take 12).drop 8)).bind fun t236 => (if t236 = 0 then (if 12 ≤ 16 then (if 16 ≤ (l0.length : Int) then ((slot_get.f k ((l0.take 16).drop 12)).bind fun t238 => ((slot_get.f k ((l0.take 8).drop 4)).bind fun t240 => ((insn_Check.f t228 t229 (wrap64 (Go.bits .and .u8 (rd l0 1) 15)) (wrap64 ((wrap64 ((rd l0 1) / 16)) - t232)) (wrap64 (t223 - t233)) (wrap64 (Go.bits .or .u64 (IntKind.u64.wrap (t238 * 4294967296)) t240))).bind fun t241 => (if t241 = 0 then (some (t228, t229, wrap64 (Go.bits .and .u8 (rd l0 1) 15), wrap64 ((wrap64 ((rd l0 1) / 16)) - t232), wrap64 (t223 - t233), wrap64 (Go.bits .or .u64 (IntKind.u64.wrap (t238 * 4294967296)) t240), t231, 0)) else (some (0, false, 0, 0, 0, 0, 0, 12)))))) else (none)) else (none)) else (some (0, false, 0, 0, 0, 0, 0, 12)))) else (none)) else (none)) else ((insn_Check.f t228 t229 (wrap64 (Go.bits .and .u8 (rd l0 1) 15)) (wrap64 ((wrap64 ((rd l0 1) / 16)) - t232)) (wrap64 (t223 - t233)) (wrap64 (t226 - t234))).bind fun t242 => (if t242 = 0 then (some (t228, t229, wrap64 (Go.bits .and .u8 (rd l0 1) 15), wrap64 ((wrap64 ((rd l0 1) / 16)) - t232), wrap64 (t223 - t233), wrap64 (t226 - t234), t231, 0)) else (some (0, false, 0, 0, 0, 0, 0, 12))))) = some (r1, r2, r3, r4, r5, r6, r7, r8) := H
                      have A45 := Aside0.mk A450
                      clear A450
                      by_cases c46 : t231 = 2
                      · rw [if_pos c46] at H
                        have c46b0 : (t231 == 2) = true := beq_iff_eq.mpr c46
                        have c46b1 : (t231 != 2) = false := bne_eq_false_iff_eq.mpr c46
                        clear c46
                        by_cases c47 : 8 ≤ 12
                        · rw [if_pos c47] at H
                          have c47b0 := eq_true c47
                          have c47b1 : decide (8 ≤ 12) = true := decide_eq_true c47
                          clear c47
                          by_cases c48 : 12 ≤ (l0.length : Int)
                          · rw [if_pos c48] at H
                            have c48b0 := eq_true c48
                            have c48b1 : decide (12 ≤ (l0.length : Int)) = true := decide_eq_true c48
                            clear c48
                            replace H := Option.bind_eq_some_iff.mp H
                            obtain ⟨t236, A490, H⟩ := H
                            have A49 := Aside0.mk A490
                            clear A490
                            by_cases c50 : t236 = 0
                            · rw [if_pos c50] at H
                              have c50b0 : (t236 == 0) = true := beq_iff_eq.mpr c50
                              have c50b1 : (t236 != 0) = false := bne_eq_false_iff_eq.mpr c50
                              clear c50
                              by_cases c51 : 12 ≤ 16
                              · rw [if_pos c51] at H
                                have c51b0 := eq_true c51
                                have c51b1 : decide (12 ≤ 16) = true := decide_eq_true c51
                                clear c51
                                by_cases c52 : 16 ≤ (l0.length : Int)
                                · rw [if_pos c52] at H
                                  have c52b0 := eq_true c52
                                  have c52b1 : decide (16 ≤ (l0.length : Int)) = true := decide_eq_true c52
                                  clear c52
                                  replace H := Option.bind_eq_some_iff.mp H
                                  obtain ⟨t238, A530, H⟩ := H
                                  have A53 := Aside0.mk A530
                                  clear A530
                                  have c54b0 := eq_true (of_decide_eq_true (by first | (with_reducible assumption) | assumption) : 4 ≤ 8)
                                  have c55b0 := eq_true (of_decide_eq_true (by first | (with_reducible assumption) | assumption) : 8 ≤ (l0.length : Int))
                                  replace H := Option.bind_eq_some_iff.mp H
                                  obtain ⟨t240, A560, H⟩ := H
                                  have A56 := Aside0.mk A560
                                  clear A560
                                  replace H := Option.bind_eq_some_iff.mp H
                                  obtain ⟨t241, A570, H⟩ := H
                                  have A57 := Aside0.mk A570
                                  clear A570
                                  by_cases c58 : t241 = 0
                                  · rw [if_pos c58] at H
                                    have c58b0 : (t241 == 0) = true := beq_iff_eq.mpr c58
                                    have c58b1 : (t241 != 0) = false := bne_eq_false_iff_eq.mpr c58
                                    clear c58
                                    simp only [Option.some.injEq, Prod.mk.injEq] at H
                                    obtain ⟨rfl, rfl, rfl, rfl, rfl, rfl, rfl, rfl⟩ := H
                                    have p227 : 0 ≤ (0 : Int) := (by omega)
                                    have q227 : 0 < (l0.length : Int) := of_decide_eq_true (by first | (with_reducible assumption) | assumption)
                                    obtain ⟨ad227, e227, hx227_0⟩ := Kd.at_int HR0.out 0 p227 q227
                                    obtain rfl : ad219 = ad227 := (by injection e227)
                                    have qi227 : (0 < l0.length) = True := eq_true (by omega)
                                    (try rw [show ((0 : Int)).toNat = 0 from rfl] at hx227_0)
                                    (try rw [Addr.add_zero'] at hx227_0)
                                    replace hx227_0 := (HB.out.cell (World.block_lt_of_cell? w _ hx227_0)).trans hx227_0
                                    replace p227 := eq_true p227
                                    replace q227 := eq_true q227
                                    try go_wp2_with (first | ((with_reducible refine gate_callee (f := 70) rfl ?_); refine goesL_ (some 44) rfl rfl Tryd.func70 (by kernel_rfl) rfl #[.int .u8 (rd l0 0), .int .i64 (wrap64 ((rd l0 1) / 16)), .int .i64 t223, .int .i64 t226] rfl (by (try simp only [List.map_toArray, List.map_cons, List.map_nil]); first | done | rfl | (simp only [List.length_drop, List.length_take]; rfl)) ?_; (with_reducible refine (ops_Identify.calls (rd l0 0) (wrap64 ((rd l0 1) / 16)) t223 t226 t228 t229 true _ A15.out (G_at hG (by repeat (first | (with_reducible first | exact HB.out | apply below_alloc | apply pw_below_drewN | apply below_drew1 | refine below_set ?_ GE218.out) | exact HB.out)))).mono ?_); rintro e w68 ⟨rfl, hb⟩; refine ⟨_, rfl, ?_⟩; have n0_ := Aside0.mk (blk_below (g := gb218) (o := .cells #[.int .i64 0, .bool false, .int .i64 0, .int .i64 0, .int .i64 0, .int .i64 0] 23 (0, 0)) (by (with_reducible repeat (first | refine blk_drewN ?_ _ | refine blk_drew ?_ | refine blk_alloc ?_ _)); exact BK218.out) hb); have n1_ := Aside0.mk (below_step (by repeat (first | (with_reducible first | exact HB.out | apply below_alloc | apply pw_below_drewN | apply below_drew1 | refine below_set ?_ GE218.out) | exact HB.out)) hb); clear BK218; clear HB; have BK218 := n0_; have HB := n1_; clear n0_ n1_; (try clear hb); (try clear hb2); (try clear hk); (try clear hi)) | ((with_reducible refine gate_callee (f := 59) rfl ?_); refine goesL_ (some 52) rfl rfl Tryd.func59 (by kernel_rfl) rfl #[.int .i64 t228] rfl (by (try simp only [List.map_toArray, List.map_cons, List.map_nil]); first | done | rfl | (simp only [List.length_drop, List.length_take]; rfl)) ?_; (with_reducible refine (insn_Slots.calls t228 t231 _ A17.out (G_at hG (by repeat (first | (with_reducible first | exact HB.out | apply below_alloc | apply pw_below_drewN | apply below_drew1 | refine below_set ?_ GE218.out) | exact HB.out)))).mono ?_); rintro e w69 ⟨rfl, hb⟩; refine ⟨_, rfl, ?_⟩; have n0_ := Aside0.mk (blk_below (g := gb218) (o := .cells #[.int .i64 0, .bool false, .int .i64 0, .int .i64 0, .int .i64 0, .int .i64 0] 23 (0, 0)) (by (with_reducible repeat (first | refine blk_drewN ?_ _ | refine blk_drew ?_ | refine blk_alloc ?_ _)); exact BK218.out) hb); have n1_ := Aside0.mk (below_step (by repeat (first | (with_reducible first | exact HB.out | apply below_alloc | apply pw_below_drewN | apply below_drew1 | refine below_set ?_ GE218.out) | exact HB.out)) hb); clear BK218; clear HB; have BK218 := n0_; have HB := n1_; clear n0_ n1_; (try clear hb); (try clear hb2); (try clear hk); (try clear hi)) | ((with_reducible refine gate_callee (f := 44) rfl ?_); refine goesL_ (some 66) rfl rfl Tryd.func44 (by kernel_rfl) rfl #[.int .i64 t228] rfl (by (try simp only [List.map_toArray, List.map_cons, List.map_nil]); first | done | rfl | (simp only [List.length_drop, List.length_take]; rfl)) ?_; (with_reducible refine (ops_Fixed.calls t228 t232 t233 t234 _ A45.out (G_at hG (by repeat (first | (with_reducible first | exact HB.out | apply below_alloc | apply pw_below_drewN | apply below_drew1 | refine below_set ?_ GE218.out) | exact HB.out)))).mono ?_); rintro e w70 ⟨rfl, hb⟩; refine ⟨_, rfl, ?_⟩; have n0_ := Aside0.mk (blk_below (g := gb218) (o := .cells #[.int .i64 0, .bool false, .int .i64 0, .int .i64 0, .int .i64 0, .int .i64 0] 23 (0, 0)) (by (with_reducible repeat (first | refine blk_drewN ?_ _ | refine blk_drew ?_ | refine blk_alloc ?_ _)); exact BK218.out) hb); have n1_ := Aside0.mk (below_step (by repeat (first | (with_reducible first | exact HB.out | apply below_alloc | apply pw_below_drewN | apply below_drew1 | refine below_set ?_ GE218.out) | exact HB.out)) hb); clear BK218; clear HB; have BK218 := n0_; have HB := n1_; clear n0_ n1_; (try clear hb); (try clear hb2); (try clear hk); (try clear hi); have hcz71_0 : w70.cell? ⟨gb218, 0, none⟩ = some (.int .i64 0) := (blk_cell BK218.out 0).trans rfl; have hcz71_1 : w70.cell? ⟨gb218, 1, none⟩ = some (.bool false) := (blk_cell BK218.out 1).trans rfl; have hcz71_2 : w70.cell? ⟨gb218, 2, none⟩ = some (.int .i64 0) := (blk_cell BK218.out 2).trans rfl; have hcz71_3 : w70.cell? ⟨gb218, 3, none⟩ = some (.int .i64 0) := (blk_cell BK218.out 3).trans rfl; have hcz71_4 : w70.cell? ⟨gb218, 4, none⟩ = some (.int .i64 0) := (blk_cell BK218.out 4).trans rfl; have hcz71_5 : w70.cell? ⟨gb218, 5, none⟩ = some (.int .i64 0) := (blk_cell BK218.out 5).trans rfl; have hfz71_0 := blk_frozen BK218.out 0; have hfz71_1 := blk_frozen BK218.out 1; have hfz71_2 := blk_frozen BK218.out 2; have hfz71_3 := blk_frozen BK218.out 3; have hfz71_4 := blk_frozen BK218.out 4; have hfz71_5 := blk_frozen BK218.out 5; obtain ⟨i072, hi072, _, hsz72, _⟩ := info_parts info5; obtain ⟨A72, hcut72, hA72, hC72⟩ := print_mid_of (P := Tryd.prog) (Value.int .u8) 0 44 5 .i64 .i64 Tryd.underlying44 hi072 hsz72 (some ad219) c0 l0 8 12 (by omega) (by first | omega | exact of_decide_eq_true (by first | (with_reducible assumption) | assumption)) (of_decide_eq_true (by first | (with_reducible assumption) | assumption)) HC0.out; have HR235 := Aside0.mk (Kd.C_of_reads (h1 := fun _ => rfl) (hA72 _ (Kd.reads_of_C HR0.out))); have HC235 := Aside0.mk hC72; clear hA72 hC72 hi072 hsz72) | ((with_reducible refine gate_callee (f := 69) rfl ?_); refine goesL_ (some 87) rfl rfl Tryd.func69 (by kernel_rfl) rfl #[.slice A72 ((l0.take 12).drop 8).length (c0 - 8)] rfl (by (try simp only [List.map_toArray, List.map_cons, List.map_nil]); first | done | (rw [show ((l0.take 12).drop 8).length = (12 - 8) from (by rw [List.length_drop, List.length_take]; have h_ : (12 : Int) ≤ (l0.length : Int) := of_decide_eq_true (by first | (with_reducible assumption) | assumption); omega)] <;> rfl) | rfl | (simp only [List.length_drop, List.length_take]; rfl)) ?_; (with_reducible refine (slot_get.calls k _ _ ((l0.take 12).drop 8) t236 _ ?side1 ?side2 A49.out).mono ?_); (case side1 => exact Kd.C_below HR235.out (by repeat (first | (with_reducible first | exact HB.out | apply below_alloc | apply pw_below_drewN | apply below_drew1 | refine below_set ?_ GE218.out) | exact HB.out))); (case side2 => exact HC235.out); rintro e w73 ⟨rfl, hb⟩; refine ⟨_, rfl, ?_⟩; have n0_ := Aside0.mk (blk_below (g := gb218) (o := .cells #[.int .i64 t228, .bool t229, .int .i64 (wrap64 (Go.bits .and .u8 (rd l0 1) 15)), .int .i64 (wrap64 ((wrap64 ((rd l0 1) / 16)) - t232)), .int .i64 (wrap64 (t223 - t233)), .int .i64 (wrap64 (t226 - t234))] 23 (0, 0)) (by (with_reducible repeat (first | refine blk_drewN ?_ _ | refine blk_drew ?_ | refine blk_alloc ?_ _)); refine blk_put (cs := #[.int .i64 t228, .bool t229, .int .i64 (wrap64 (Go.bits .and .u8 (rd l0 1) 15)), .int .i64 (wrap64 ((wrap64 ((rd l0 1) / 16)) - t232)), .int .i64 (wrap64 (t223 - t233)), .int .i64 0]) ?_ 5 _ rfl; (with_reducible repeat (first | refine blk_drewN ?_ _ | refine blk_drew ?_ | refine blk_alloc ?_ _)); refine blk_put (cs := #[.int .i64 t228, .bool t229, .int .i64 (wrap64 (Go.bits .and .u8 (rd l0 1) 15)), .int .i64 (wrap64 ((wrap64 ((rd l0 1) / 16)) - t232)), .int .i64 0, .int .i64 0]) ?_ 4 _ rfl; (with_reducible repeat (first | refine blk_drewN ?_ _ | refine blk_drew ?_ | refine blk_alloc ?_ _)); refine blk_put (cs := #[.int .i64 t228, .bool t229, .int .i64 (wrap64 (Go.bits .and .u8 (rd l0 1) 15)), .int .i64 0, .int .i64 0, .int .i64 0]) ?_ 3 _ rfl; (with_reducible repeat (first | refine blk_drewN ?_ _ | refine blk_drew ?_ | refine blk_alloc ?_ _)); refine blk_put (cs := #[.int .i64 t228, .bool t229, .int .i64 0, .int .i64 0, .int .i64 0, .int .i64 0]) ?_ 2 _ rfl; (with_reducible repeat (first | refine blk_drewN ?_ _ | refine blk_drew ?_ | refine blk_alloc ?_ _)); refine blk_put (cs := #[.int .i64 t228, .bool false, .int .i64 0, .int .i64 0, .int .i64 0, .int .i64 0]) ?_ 1 _ rfl; (with_reducible repeat (first | refine blk_drewN ?_ _ | refine blk_drew ?_ | refine blk_alloc ?_ _)); refine blk_put (cs := #[.int .i64 0, .bool false, .int .i64 0, .int .i64 0, .int .i64 0, .int .i64 0]) ?_ 0 _ rfl; (with_reducible repeat (first | refine blk_drewN ?_ _ | refine blk_drew ?_ | refine blk_alloc ?_ _)); exact BK218.out) hb); have n1_ := Aside0.mk (below_step (by repeat (first | (with_reducible first | exact HB.out | apply below_alloc | apply pw_below_drewN | apply below_drew1 | refine below_set ?_ GE218.out) | exact HB.out)) hb); clear BK218; clear HB; have BK218 := n0_; have HB := n1_; clear n0_ n1_; (try clear hb); (try clear hb2); (try clear hk); (try clear hi)))
                                    have n0_ := Aside0.mk (blk_drew BK218.out)
                                    have n1_ := Aside0.mk (below_drew1 HB.out)
                                    clear BK218
                                    clear HB
                                    have BK218 := n0_
                                    have HB := n1_
                                    clear n0_ n1_
                                    obtain ⟨i075, hi075, _, hsz75, _⟩ := info_parts info5
                                    obtain ⟨A75, hcut75, hA75, hC75⟩ := print_mid_of (P := Tryd.prog) (Value.int .u8) 0 44 5 .i64 .i64 Tryd.underlying44 hi075 hsz75 (some ad219) c0 l0 12 16 (by omega) (by first | omega | exact of_decide_eq_true (by first | (with_reducible assumption) | assumption)) (of_decide_eq_true (by first | (with_reducible assumption) | assumption)) HC0.out
                                    have HR237 := Aside0.mk (Kd.C_of_reads (h1 := fun _ => rfl) (hA75 _ (Kd.reads_of_C HR0.out)))
                                    have HC237 := Aside0.mk hC75
                                    clear hA75 hC75 hi075 hsz75
                                    obtain ⟨i076, hi076, _, hsz76, _⟩ := info_parts info5
                                    obtain ⟨A76, hcut76, hA76, hC76⟩ := print_mid_of (P := Tryd.prog) (Value.int .u8) 0 44 5 .i64 .i64 Tryd.underlying44 hi076 hsz76 (some ad219) c0 l0 4 8 (by omega) (by first | omega | exact of_decide_eq_true (by first | (with_reducible assumption) | assumption)) (of_decide_eq_true (by first | (with_reducible assumption) | assumption)) HC0.out
                                    have HR239 := Aside0.mk (Kd.C_of_reads (h1 := fun _ => rfl) (hA76 _ (Kd.reads_of_C HR0.out)))
                                    have HC239 := Aside0.mk hC76
                                    clear hA76 hC76 hi076 hsz76
                                    refine start_ (n := 11) (S := fun w' => True) (ds := []) #[false, false, false, false, false, false, false, false, false, false, false] (by kernel_rfl) rfl rfl trivial (fun hHeld => ?_); refine with_tabW slot_Decode.tab18 slot_Decode.bits18 (fun HT_ HW_ => ?_)
                                    generalize w73.drew = w74 at BK218 HB HR237 HR239 hHeld ⊢
                                    refine pure_ (i := 0) (N := some 90) (v := ?_) (a' := ?_) #[true, false, false, false, false, false, false, false, false, false, false] rfl rfl (any_of HT_.out (by kernel_rfl)) (fun _ _ _ h => h) (Or.inl ⟨by rfl, ?_⟩) ?_ ?_
                                    rotate_left
                                    · intro w'
                                      go_simp
                                      with_reducible rfl
                                    rotate_left
                                    · simp only [Act.put, List.setIfInBounds_toArray, List.set_cons_zero, List.set_cons_succ, i64_w, i32_w]
                                      rfl
                                    refine pure_ (i := 1) (N := some 91) (v := ?_) (a' := ?_) #[true, true, false, false, false, false, false, false, false, false, false] rfl rfl (any_of HT_.out (by kernel_rfl)) (fun _ _ _ h => h) (Or.inl ⟨by rfl, ?_⟩) ?_ ?_
                                    rotate_left
                                    · intro w'
                                      go_simp
                                      with_reducible rfl
                                    rotate_left
                                    · simp only [Act.put, List.setIfInBounds_toArray, List.set_cons_zero, List.set_cons_succ, i64_w, i32_w]
                                      rfl
                                    refine pure_ (i := 4) (N := some 94) (v := ?_) (a' := ?_) #[true, true, false, false, true, false, false, false, false, false, false] rfl rfl (any_of HT_.out (by kernel_rfl)) (fun _ _ _ h => h) (Or.inl ⟨by rfl, ?_⟩) ?_ ?_
                                    rotate_left
                                    · intro w'
                                      go_simp
                                      with_reducible rfl
                                    rotate_left
                                    · simp only [Act.put, List.setIfInBounds_toArray, List.set_cons_zero, List.set_cons_succ, i64_w, i32_w]
                                      rfl
                                    refine pure_ (i := 5) (N := some 95) (v := ?_) (a' := ?_) #[true, true, false, false, true, true, false, false, false, false, false] rfl rfl (any_of HT_.out (by kernel_rfl)) (fun _ _ _ h => h) (Or.inl ⟨by rfl, ?_⟩) ?_ ?_
                                    rotate_left
                                    · intro w'
                                      go_simp
                                      with_reducible rfl
                                    rotate_left
                                    · simp only [Act.put, List.setIfInBounds_toArray, List.set_cons_zero, List.set_cons_succ, i64_w, i32_w]
                                      rfl
                                    refine one_ (i := 2) (N := some 92) #[true, true, true, false, true, true, false, false, false, false, false] rfl rfl (one_of HT_.out (by kernel_rfl)) (by decide) (fun K hK => ?_)
                                    refine goes_ Tryd.func69 (by kernel_rfl) rfl #[.slice A75 ((l0.take 16).drop 12).length (c0 - 12)] (by rfl) rfl rfl (by (try simp only [List.map_toArray, List.map_cons, List.map_nil]); first | done | (rw [show ((l0.take 16).drop 12).length = (16 - 12) from (by rw [List.length_drop, List.length_take]; have h_ : (16 : Int) ≤ (l0.length : Int) := of_decide_eq_true (by first | (with_reducible assumption) | assumption); omega)] <;> rfl) | rfl | (simp only [List.length_drop, List.length_take]; rfl)) ?_
                                    with_reducible refine (slot_get.calls k _ _ ((l0.take 16).drop 12) t238 _ ?side1 ?side2 A53.out).mono ?_
                                    (case side1 => repeat (first | exact (Kd.C_below HR237.out HB.out) | (with_reducible refine Kd.C_alloc ?_ _) | (with_reducible refine Kd.C_drewN ?_ _) | (with_reducible refine Kd.C_drew ?_)))
                                    (case side2 => exact HC237.out)
                                    rintro e w77 ⟨rfl, hb⟩
                                    refine ⟨_, rfl, ?_⟩
                                    have n0_ := Aside0.mk (blk_below (g := gb218) (o := .cells #[.int .i64 t228, .bool t229, .int .i64 (wrap64 (Go.bits .and .u8 (rd l0 1) 15)), .int .i64 (wrap64 ((wrap64 ((rd l0 1) / 16)) - t232)), .int .i64 (wrap64 (t223 - t233)), .int .i64 (wrap64 (t226 - t234))] 23 (0, 0)) (by (with_reducible repeat (first | refine blk_drewN ?_ _ | refine blk_drew ?_ | refine blk_alloc ?_ _)); exact BK218.out) hb)
                                    have n1_ := Aside0.mk (below_step (by repeat (first | (with_reducible first | exact HB.out | apply below_alloc | apply pw_below_drewN | apply below_drew1 | refine below_set ?_ GE218.out) | exact HB.out)) hb)
                                    clear BK218
                                    clear HB
                                    have BK218 := n0_
                                    have HB := n1_
                                    clear n0_ n1_
                                    (try clear hb)
                                    (try clear hb2)
                                    (try clear hk)
                                    (try clear hi)
                                    refine hK.out _ _ trivial (fun hHeld => ?_)
                                    clear hK K
                                    refine norm_ (a' := ?_) ?_ ?_
                                    rotate_left
                                    · show Act.put _ (some 92) _ = _
                                      simp only [Act.put, List.setIfInBounds_toArray, List.set_cons_zero, List.set_cons_succ, i64_w, i32_w]
                                      rfl
                                    refine pure_ (i := 3) (N := some 93) (v := ?_) (a' := ?_) #[true, true, true, true, true, true, false, false, false, false, false] rfl rfl (any_of HT_.out (by kernel_rfl)) (fun _ _ _ h => h) (Or.inl ⟨by rfl, ?_⟩) ?_ ?_
                                    rotate_left
                                    · intro w'
                                      go_simp
                                      with_reducible rfl
                                    rotate_left
                                    · simp only [Act.put, List.setIfInBounds_toArray, List.set_cons_zero, List.set_cons_succ, i64_w, i32_w]
                                      rfl
                                    refine one_ (i := 6) (N := some 96) #[true, true, true, true, true, true, true, false, false, false, false] rfl rfl (one_of HT_.out (by kernel_rfl)) (by decide) (fun K hK => ?_)
                                    refine goes_ Tryd.func69 (by kernel_rfl) rfl #[.slice A76 ((l0.take 8).drop 4).length (c0 - 4)] (by rfl) rfl rfl (by (try simp only [List.map_toArray, List.map_cons, List.map_nil]); first | done | (rw [show ((l0.take 8).drop 4).length = (8 - 4) from (by rw [List.length_drop, List.length_take]; have h_ : (8 : Int) ≤ (l0.length : Int) := of_decide_eq_true (by first | (with_reducible assumption) | assumption); omega)] <;> rfl) | rfl | (simp only [List.length_drop, List.length_take]; rfl)) ?_
                                    with_reducible refine (slot_get.calls k _ _ ((l0.take 8).drop 4) t240 _ ?side1 ?side2 A56.out).mono ?_
                                    (case side1 => repeat (first | exact (Kd.C_below HR239.out HB.out) | (with_reducible refine Kd.C_alloc ?_ _) | (with_reducible refine Kd.C_drewN ?_ _) | (with_reducible refine Kd.C_drew ?_)))
                                    (case side2 => exact HC239.out)
                                    rintro e w78 ⟨rfl, hb⟩
                                    refine ⟨_, rfl, ?_⟩
                                    have n0_ := Aside0.mk (blk_below (g := gb218) (o := .cells #[.int .i64 t228, .bool t229, .int .i64 (wrap64 (Go.bits .and .u8 (rd l0 1) 15)), .int .i64 (wrap64 ((wrap64 ((rd l0 1) / 16)) - t232)), .int .i64 (wrap64 (t223 - t233)), .int .i64 (wrap64 (t226 - t234))] 23 (0, 0)) (by (with_reducible repeat (first | refine blk_drewN ?_ _ | refine blk_drew ?_ | refine blk_alloc ?_ _)); exact BK218.out) hb)
                                    have n1_ := Aside0.mk (below_step (by repeat (first | (with_reducible first | exact HB.out | apply below_alloc | apply pw_below_drewN | apply below_drew1 | refine below_set ?_ GE218.out) | exact HB.out)) hb)
                                    clear BK218
                                    clear HB
                                    have BK218 := n0_
                                    have HB := n1_
                                    clear n0_ n1_
                                    (try clear hb)
                                    (try clear hb2)
                                    (try clear hk)
                                    (try clear hi)
                                    refine hK.out _ _ trivial (fun hHeld => ?_)
                                    clear hK K
                                    refine norm_ (a' := ?_) ?_ ?_
                                    rotate_left
                                    · show Act.put _ (some 96) _ = _
                                      simp only [Act.put, List.setIfInBounds_toArray, List.set_cons_zero, List.set_cons_succ, i64_w, i32_w]
                                      rfl
                                    refine pure_ (i := 7) (N := some 97) (v := ?_) (a' := ?_) #[true, true, true, true, true, true, true, true, false, false, false] rfl rfl (any_of HT_.out (by kernel_rfl)) (fun _ _ _ h => h) (Or.inl ⟨by rfl, ?_⟩) ?_ ?_
                                    rotate_left
                                    · intro w'
                                      go_simp
                                      with_reducible rfl
                                    rotate_left
                                    · simp only [Act.put, List.setIfInBounds_toArray, List.set_cons_zero, List.set_cons_succ, i64_w, i32_w]
                                      rfl
                                    refine pure_ (i := 8) (N := some 98) (v := ?_) (a' := ?_) #[true, true, true, true, true, true, true, true, true, false, false] rfl rfl (any_of HT_.out (by kernel_rfl)) (fun _ _ _ h => h) (Or.inl ⟨by rfl, ?_⟩) ?_ ?_
                                    rotate_left
                                    · intro w'
                                      go_simp
                                      with_reducible rfl
                                    rotate_left
                                    · simp only [Act.put, List.setIfInBounds_toArray, List.set_cons_zero, List.set_cons_succ, i64_w, i32_w]
                                      rfl
                                    refine pure_ (i := 9) (N := some 99) (v := ?_) (a' := ?_) #[true, true, true, true, true, true, true, true, true, true, false] rfl rfl (any_of HT_.out (by kernel_rfl)) (fun _ _ _ h => h) (Or.inl ⟨by rfl, ?_⟩) ?_ ?_
                                    rotate_left
                                    · intro w'
                                      go_simp
                                      with_reducible rfl
                                    rotate_left
                                    · simp only [Act.put, List.setIfInBounds_toArray, List.set_cons_zero, List.set_cons_succ, i64_w, i32_w]
                                      rfl
                                    refine one_ (i := 10) (N := none) #[true, true, true, true, true, true, true, true, true, true, true] rfl rfl (one_of HT_.out (by kernel_rfl)) (by decide) (fun K hK => ?_)
                                    have hs79 : w78.cell? ⟨gb218, 5, none⟩ = some (.int .i64 (wrap64 (t226 - t234))) := (blk_cell BK218.out 5).trans rfl
                                    have hfs79 := blk_frozen BK218.out 5
                                    refine skip_ (by rfl) rfl (run_store_at (P := Tryd.prog) rfl rfl rfl (fun w => by first | exact Tryd.sizeOf2 w | go_simp) (by with_reducible first | exact hs79 | exact (World.cell?_drewN _ _ _).trans hs79 | exact (World.cell?_drewN _ _ _).trans ((World.cell?_drewN _ _ _).trans hs79)) (by with_reducible first | exact hfs79 | exact (World.frozen?_drewN _ _ _).trans hfs79 | exact (World.frozen?_drewN _ _ _).trans ((World.frozen?_drewN _ _ _).trans hfs79))) ?_
                                    refine hK.out _ _ trivial (fun hHeld => ?_)
                                    clear hK K
                                    refine done_ (done_of HT_.out (by kernel_rfl)) ?_
                                    have hcz80_0 : w78.cell? ⟨gb218, 0, none⟩ = some (.int .i64 t228) := (blk_cell BK218.out 0).trans rfl
                                    have hcz80_1 : w78.cell? ⟨gb218, 1, none⟩ = some (.bool t229) := (blk_cell BK218.out 1).trans rfl
                                    have hcz80_2 : w78.cell? ⟨gb218, 2, none⟩ = some (.int .i64 (wrap64 (Go.bits .and .u8 (rd l0 1) 15))) := (blk_cell BK218.out 2).trans rfl
                                    have hcz80_3 : w78.cell? ⟨gb218, 3, none⟩ = some (.int .i64 (wrap64 ((wrap64 ((rd l0 1) / 16)) - t232))) := (blk_cell BK218.out 3).trans rfl
                                    have hcz80_4 : w78.cell? ⟨gb218, 4, none⟩ = some (.int .i64 (wrap64 (t223 - t233))) := (blk_cell BK218.out 4).trans rfl
                                    have hcz80_5 : w78.cell? ⟨gb218, 5, none⟩ = some (.int .i64 (wrap64 (t226 - t234))) := (blk_cell BK218.out 5).trans rfl
                                    have hfz80_0 := blk_frozen BK218.out 0
                                    have hfz80_1 := blk_frozen BK218.out 1
                                    have hfz80_2 := blk_frozen BK218.out 2
                                    have hfz80_3 := blk_frozen BK218.out 3
                                    have hfz80_4 := blk_frozen BK218.out 4
                                    have hfz80_5 := blk_frozen BK218.out 5
                                    try go_wp2_with (first | ((with_reducible refine gate_callee (f := 55) rfl ?_); refine goesL_ (some 101) rfl rfl Tryd.func55 (by kernel_rfl) rfl #[.agg #[.int .i64 t228, .bool t229, .int .i64 (wrap64 (Go.bits .and .u8 (rd l0 1) 15)), .int .i64 (wrap64 ((wrap64 ((rd l0 1) / 16)) - t232)), .int .i64 (wrap64 (t223 - t233)), .int .i64 (wrap64 (Go.bits .or .u64 (IntKind.u64.wrap (t238 * 4294967296)) t240))]] rfl (by (try simp only [List.map_toArray, List.map_cons, List.map_nil]); first | done | rfl | (simp only [List.length_drop, List.length_take]; rfl)) ?_; (with_reducible refine (insn_Check.calls t228 t229 (wrap64 (Go.bits .and .u8 (rd l0 1) 15)) (wrap64 ((wrap64 ((rd l0 1) / 16)) - t232)) (wrap64 (t223 - t233)) (wrap64 (Go.bits .or .u64 (IntKind.u64.wrap (t238 * 4294967296)) t240)) t241 _ A57.out (G_at hG (by repeat (first | (with_reducible first | exact HB.out | apply below_alloc | apply pw_below_drewN | apply below_drew1 | refine below_set ?_ GE218.out) | exact HB.out)))).mono ?_); rintro e w81 ⟨rfl, hb⟩; refine ⟨_, rfl, ?_⟩; have n0_ := Aside0.mk (blk_below (g := gb218) (o := .cells #[.int .i64 t228, .bool t229, .int .i64 (wrap64 (Go.bits .and .u8 (rd l0 1) 15)), .int .i64 (wrap64 ((wrap64 ((rd l0 1) / 16)) - t232)), .int .i64 (wrap64 (t223 - t233)), .int .i64 (wrap64 (Go.bits .or .u64 (IntKind.u64.wrap (t238 * 4294967296)) t240))] 23 (0, 0)) (by (with_reducible repeat (first | refine blk_drewN ?_ _ | refine blk_drew ?_ | refine blk_alloc ?_ _)); refine blk_put (cs := #[.int .i64 t228, .bool t229, .int .i64 (wrap64 (Go.bits .and .u8 (rd l0 1) 15)), .int .i64 (wrap64 ((wrap64 ((rd l0 1) / 16)) - t232)), .int .i64 (wrap64 (t223 - t233)), .int .i64 (wrap64 (t226 - t234))]) ?_ 5 _ rfl; (with_reducible repeat (first | refine blk_drewN ?_ _ | refine blk_drew ?_ | refine blk_alloc ?_ _)); exact BK218.out) hb); have n1_ := Aside0.mk (below_step (by repeat (first | (with_reducible first | exact HB.out | apply below_alloc | apply pw_below_drewN | apply below_drew1 | refine below_set ?_ GE218.out) | exact HB.out)) hb); clear BK218; clear HB; have BK218 := n0_; have HB := n1_; clear n0_ n1_; (try clear hb); (try clear hb2); (try clear hk); (try clear hi); have hcz82_0 : w81.cell? ⟨gb218, 0, none⟩ = some (.int .i64 t228) := (blk_cell BK218.out 0).trans rfl; have hcz82_1 : w81.cell? ⟨gb218, 1, none⟩ = some (.bool t229) := (blk_cell BK218.out 1).trans rfl; have hcz82_2 : w81.cell? ⟨gb218, 2, none⟩ = some (.int .i64 (wrap64 (Go.bits .and .u8 (rd l0 1) 15))) := (blk_cell BK218.out 2).trans rfl; have hcz82_3 : w81.cell? ⟨gb218, 3, none⟩ = some (.int .i64 (wrap64 ((wrap64 ((rd l0 1) / 16)) - t232))) := (blk_cell BK218.out 3).trans rfl; have hcz82_4 : w81.cell? ⟨gb218, 4, none⟩ = some (.int .i64 (wrap64 (t223 - t233))) := (blk_cell BK218.out 4).trans rfl; have hcz82_5 : w81.cell? ⟨gb218, 5, none⟩ = some (.int .i64 (wrap64 (Go.bits .or .u64 (IntKind.u64.wrap (t238 * 4294967296)) t240))) := (blk_cell BK218.out 5).trans rfl; have hfz82_0 := blk_frozen BK218.out 0; have hfz82_1 := blk_frozen BK218.out 1; have hfz82_2 := blk_frozen BK218.out 2; have hfz82_3 := blk_frozen BK218.out 3; have hfz82_4 := blk_frozen BK218.out 4; have hfz82_5 := blk_frozen BK218.out 5))
                                    refine bodyPost_ret (results_ctt rfl _ _ gb218 23 #[.int .i64 t228, .bool t229, .int .i64 (wrap64 (Go.bits .and .u8 (rd l0 1) 15)), .int .i64 (wrap64 ((wrap64 ((rd l0 1) / 16)) - t232)), .int .i64 (wrap64 (t223 - t233)), .int .i64 (wrap64 (Go.bits .or .u64 (IntKind.u64.wrap (t238 * 4294967296)) t240))] (0, 0) _ rfl (by (with_reducible repeat (first | refine blk_drewN ?_ _ | refine blk_drew ?_ | refine blk_alloc ?_ _)); refine blk_put (cs := #[.int .i64 t228, .bool t229, .int .i64 (wrap64 (Go.bits .and .u8 (rd l0 1) 15)), .int .i64 (wrap64 ((wrap64 ((rd l0 1) / 16)) - t232)), .int .i64 (wrap64 (t223 - t233)), .int .i64 (wrap64 (Go.bits .or .u64 (IntKind.u64.wrap (t238 * 4294967296)) t240))]) ?_ 5 _ rfl; (with_reducible repeat (first | refine blk_drewN ?_ _ | refine blk_drew ?_ | refine blk_alloc ?_ _)); refine blk_put (cs := #[.int .i64 t228, .bool t229, .int .i64 (wrap64 (Go.bits .and .u8 (rd l0 1) 15)), .int .i64 (wrap64 ((wrap64 ((rd l0 1) / 16)) - t232)), .int .i64 (wrap64 (t223 - t233)), .int .i64 (wrap64 (Go.bits .or .u64 (IntKind.u64.wrap (t238 * 4294967296)) t240))]) ?_ 4 _ rfl; (with_reducible repeat (first | refine blk_drewN ?_ _ | refine blk_drew ?_ | refine blk_alloc ?_ _)); refine blk_put (cs := #[.int .i64 t228, .bool t229, .int .i64 (wrap64 (Go.bits .and .u8 (rd l0 1) 15)), .int .i64 (wrap64 ((wrap64 ((rd l0 1) / 16)) - t232)), .int .i64 (wrap64 (t223 - t233)), .int .i64 (wrap64 (Go.bits .or .u64 (IntKind.u64.wrap (t238 * 4294967296)) t240))]) ?_ 3 _ rfl; (with_reducible repeat (first | refine blk_drewN ?_ _ | refine blk_drew ?_ | refine blk_alloc ?_ _)); refine blk_put (cs := #[.int .i64 t228, .bool t229, .int .i64 (wrap64 (Go.bits .and .u8 (rd l0 1) 15)), .int .i64 (wrap64 ((wrap64 ((rd l0 1) / 16)) - t232)), .int .i64 (wrap64 (t223 - t233)), .int .i64 (wrap64 (Go.bits .or .u64 (IntKind.u64.wrap (t238 * 4294967296)) t240))]) ?_ 2 _ rfl; (with_reducible repeat (first | refine blk_drewN ?_ _ | refine blk_drew ?_ | refine blk_alloc ?_ _)); refine blk_put (cs := #[.int .i64 t228, .bool t229, .int .i64 (wrap64 (Go.bits .and .u8 (rd l0 1) 15)), .int .i64 (wrap64 ((wrap64 ((rd l0 1) / 16)) - t232)), .int .i64 (wrap64 (t223 - t233)), .int .i64 (wrap64 (Go.bits .or .u64 (IntKind.u64.wrap (t238 * 4294967296)) t240))]) ?_ 1 _ rfl; (with_reducible repeat (first | refine blk_drewN ?_ _ | refine blk_drew ?_ | refine blk_alloc ?_ _)); refine blk_put (cs := #[.int .i64 t228, .bool t229, .int .i64 (wrap64 (Go.bits .and .u8 (rd l0 1) 15)), .int .i64 (wrap64 ((wrap64 ((rd l0 1) / 16)) - t232)), .int .i64 (wrap64 (t223 - t233)), .int .i64 (wrap64 (Go.bits .or .u64 (IntKind.u64.wrap (t238 * 4294967296)) t240))]) ?_ 0 _ rfl; (with_reducible repeat (first | refine blk_drewN ?_ _ | refine blk_drew ?_ | refine blk_alloc ?_ _)); exact BK218.out) Tryd.underlying23 rfl (by kernel_rfl)) rfl ?_
                                    exact ⟨by first | rfl | (simp [errW_none, errW_some] <;> rfl) | (simp only [← hji31]; first | rfl | (simp [errW_none, errW_some] <;> rfl)) | (simp [*, errW_none, errW_some] <;> rfl), by repeat (first | (with_reducible first | exact HB.out | apply below_alloc | apply pw_below_drewN | apply below_drew1 | refine below_set ?_ GE218.out) | exact HB.out)⟩
                                  · rw [if_neg c58] at H
                                    have c58b0 : (t241 == 0) = false := beq_eq_false_iff_ne.mpr c58
                                    have c58b1 : (t241 != 0) = true := bne_iff_ne.mpr c58
                                    simp only [Option.some.injEq, Prod.mk.injEq] at H
                                    obtain ⟨rfl, rfl, rfl, rfl, rfl, rfl, rfl, rfl⟩ := H
                                    have p227 : 0 ≤ (0 : Int) := (by omega)
                                    have q227 : 0 < (l0.length : Int) := of_decide_eq_true (by first | (with_reducible assumption) | assumption)
                                    obtain ⟨ad227, e227, hx227_0⟩ := Kd.at_int HR0.out 0 p227 q227
                                    obtain rfl : ad219 = ad227 := (by injection e227)
                                    have qi227 : (0 < l0.length) = True := eq_true (by omega)
                                    (try rw [show ((0 : Int)).toNat = 0 from rfl] at hx227_0)
                                    (try rw [Addr.add_zero'] at hx227_0)
                                    replace hx227_0 := (HB.out.cell (World.block_lt_of_cell? w _ hx227_0)).trans hx227_0
                                    replace p227 := eq_true p227
                                    replace q227 := eq_true q227
                                    try go_wp2_with (first | ((with_reducible refine gate_callee (f := 70) rfl ?_); refine goesL_ (some 44) rfl rfl Tryd.func70 (by kernel_rfl) rfl #[.int .u8 (rd l0 0), .int .i64 (wrap64 ((rd l0 1) / 16)), .int .i64 t223, .int .i64 t226] rfl (by (try simp only [List.map_toArray, List.map_cons, List.map_nil]); first | done | rfl | (simp only [List.length_drop, List.length_take]; rfl)) ?_; (with_reducible refine (ops_Identify.calls (rd l0 0) (wrap64 ((rd l0 1) / 16)) t223 t226 t228 t229 true _ A15.out (G_at hG (by repeat (first | (with_reducible first | exact HB.out | apply below_alloc | apply pw_below_drewN | apply below_drew1 | refine below_set ?_ GE218.out) | exact HB.out)))).mono ?_); rintro e w92 ⟨rfl, hb⟩; refine ⟨_, rfl, ?_⟩; have n0_ := Aside0.mk (blk_below (g := gb218) (o := .cells #[.int .i64 0, .bool false, .int .i64 0, .int .i64 0, .int .i64 0, .int .i64 0] 23 (0, 0)) (by (with_reducible repeat (first | refine blk_drewN ?_ _ | refine blk_drew ?_ | refine blk_alloc ?_ _)); exact BK218.out) hb); have n1_ := Aside0.mk (below_step (by repeat (first | (with_reducible first | exact HB.out | apply below_alloc | apply pw_below_drewN | apply below_drew1 | refine below_set ?_ GE218.out) | exact HB.out)) hb); clear BK218; clear HB; have BK218 := n0_; have HB := n1_; clear n0_ n1_; (try clear hb); (try clear hb2); (try clear hk); (try clear hi)) | ((with_reducible refine gate_callee (f := 59) rfl ?_); refine goesL_ (some 52) rfl rfl Tryd.func59 (by kernel_rfl) rfl #[.int .i64 t228] rfl (by (try simp only [List.map_toArray, List.map_cons, List.map_nil]); first | done | rfl | (simp only [List.length_drop, List.length_take]; rfl)) ?_; (with_reducible refine (insn_Slots.calls t228 t231 _ A17.out (G_at hG (by repeat (first | (with_reducible first | exact HB.out | apply below_alloc | apply pw_below_drewN | apply below_drew1 | refine below_set ?_ GE218.out) | exact HB.out)))).mono ?_); rintro e w93 ⟨rfl, hb⟩; refine ⟨_, rfl, ?_⟩; have n0_ := Aside0.mk (blk_below (g := gb218) (o := .cells #[.int .i64 0, .bool false, .int .i64 0, .int .i64 0, .int .i64 0, .int .i64 0] 23 (0, 0)) (by (with_reducible repeat (first | refine blk_drewN ?_ _ | refine blk_drew ?_ | refine blk_alloc ?_ _)); exact BK218.out) hb); have n1_ := Aside0.mk (below_step (by repeat (first | (with_reducible first | exact HB.out | apply below_alloc | apply pw_below_drewN | apply below_drew1 | refine below_set ?_ GE218.out) | exact HB.out)) hb); clear BK218; clear HB; have BK218 := n0_; have HB := n1_; clear n0_ n1_; (try clear hb); (try clear hb2); (try clear hk); (try clear hi)) | ((with_reducible refine gate_callee (f := 44) rfl ?_); refine goesL_ (some 66) rfl rfl Tryd.func44 (by kernel_rfl) rfl #[.int .i64 t228] rfl (by (try simp only [List.map_toArray, List.map_cons, List.map_nil]); first | done | rfl | (simp only [List.length_drop, List.length_take]; rfl)) ?_; (with_reducible refine (ops_Fixed.calls t228 t232 t233 t234 _ A45.out (G_at hG (by repeat (first | (with_reducible first | exact HB.out | apply below_alloc | apply pw_below_drewN | apply below_drew1 | refine below_set ?_ GE218.out) | exact HB.out)))).mono ?_); rintro e w94 ⟨rfl, hb⟩; refine ⟨_, rfl, ?_⟩; have n0_ := Aside0.mk (blk_below (g := gb218) (o := .cells #[.int .i64 0, .bool false, .int .i64 0, .int .i64 0, .int .i64 0, .int .i64 0] 23 (0, 0)) (by (with_reducible repeat (first | refine blk_drewN ?_ _ | refine blk_drew ?_ | refine blk_alloc ?_ _)); exact BK218.out) hb); have n1_ := Aside0.mk (below_step (by repeat (first | (with_reducible first | exact HB.out | apply below_alloc | apply pw_below_drewN | apply below_drew1 | refine below_set ?_ GE218.out) | exact HB.out)) hb); clear BK218; clear HB; have BK218 := n0_; have HB := n1_; clear n0_ n1_; (try clear hb); (try clear hb2); (try clear hk); (try clear hi); have hcz95_0 : w94.cell? ⟨gb218, 0, none⟩ = some (.int .i64 0) := (blk_cell BK218.out 0).trans rfl; have hcz95_1 : w94.cell? ⟨gb218, 1, none⟩ = some (.bool false) := (blk_cell BK218.out 1).trans rfl; have hcz95_2 : w94.cell? ⟨gb218, 2, none⟩ = some (.int .i64 0) := (blk_cell BK218.out 2).trans rfl; have hcz95_3 : w94.cell? ⟨gb218, 3, none⟩ = some (.int .i64 0) := (blk_cell BK218.out 3).trans rfl; have hcz95_4 : w94.cell? ⟨gb218, 4, none⟩ = some (.int .i64 0) := (blk_cell BK218.out 4).trans rfl; have hcz95_5 : w94.cell? ⟨gb218, 5, none⟩ = some (.int .i64 0) := (blk_cell BK218.out 5).trans rfl; have hfz95_0 := blk_frozen BK218.out 0; have hfz95_1 := blk_frozen BK218.out 1; have hfz95_2 := blk_frozen BK218.out 2; have hfz95_3 := blk_frozen BK218.out 3; have hfz95_4 := blk_frozen BK218.out 4; have hfz95_5 := blk_frozen BK218.out 5; obtain ⟨i096, hi096, _, hsz96, _⟩ := info_parts info5; obtain ⟨A96, hcut96, hA96, hC96⟩ := print_mid_of (P := Tryd.prog) (Value.int .u8) 0 44 5 .i64 .i64 Tryd.underlying44 hi096 hsz96 (some ad219) c0 l0 8 12 (by omega) (by first | omega | exact of_decide_eq_true (by first | (with_reducible assumption) | assumption)) (of_decide_eq_true (by first | (with_reducible assumption) | assumption)) HC0.out; have HR235 := Aside0.mk (Kd.C_of_reads (h1 := fun _ => rfl) (hA96 _ (Kd.reads_of_C HR0.out))); have HC235 := Aside0.mk hC96; clear hA96 hC96 hi096 hsz96) | ((with_reducible refine gate_callee (f := 69) rfl ?_); refine goesL_ (some 87) rfl rfl Tryd.func69 (by kernel_rfl) rfl #[.slice A96 ((l0.take 12).drop 8).length (c0 - 8)] rfl (by (try simp only [List.map_toArray, List.map_cons, List.map_nil]); first | done | (rw [show ((l0.take 12).drop 8).length = (12 - 8) from (by rw [List.length_drop, List.length_take]; have h_ : (12 : Int) ≤ (l0.length : Int) := of_decide_eq_true (by first | (with_reducible assumption) | assumption); omega)] <;> rfl) | rfl | (simp only [List.length_drop, List.length_take]; rfl)) ?_; (with_reducible refine (slot_get.calls k _ _ ((l0.take 12).drop 8) t236 _ ?side1 ?side2 A49.out).mono ?_); (case side1 => exact Kd.C_below HR235.out (by repeat (first | (with_reducible first | exact HB.out | apply below_alloc | apply pw_below_drewN | apply below_drew1 | refine below_set ?_ GE218.out) | exact HB.out))); (case side2 => exact HC235.out); rintro e w97 ⟨rfl, hb⟩; refine ⟨_, rfl, ?_⟩; have n0_ := Aside0.mk (blk_below (g := gb218) (o := .cells #[.int .i64 t228, .bool t229, .int .i64 (wrap64 (Go.bits .and .u8 (rd l0 1) 15)), .int .i64 (wrap64 ((wrap64 ((rd l0 1) / 16)) - t232)), .int .i64 (wrap64 (t223 - t233)), .int .i64 (wrap64 (t226 - t234))] 23 (0, 0)) (by (with_reducible repeat (first | refine blk_drewN ?_ _ | refine blk_drew ?_ | refine blk_alloc ?_ _)); refine blk_put (cs := #[.int .i64 t228, .bool t229, .int .i64 (wrap64 (Go.bits .and .u8 (rd l0 1) 15)), .int .i64 (wrap64 ((wrap64 ((rd l0 1) / 16)) - t232)), .int .i64 (wrap64 (t223 - t233)), .int .i64 0]) ?_ 5 _ rfl; (with_reducible repeat (first | refine blk_drewN ?_ _ | refine blk_drew ?_ | refine blk_alloc ?_ _)); refine blk_put (cs := #[.int .i64 t228, .bool t229, .int .i64 (wrap64 (Go.bits .and .u8 (rd l0 1) 15)), .int .i64 (wrap64 ((wrap64 ((rd l0 1) / 16)) - t232)), .int .i64 0, .int .i64 0]) ?_ 4 _ rfl; (with_reducible repeat (first | refine blk_drewN ?_ _ | refine blk_drew ?_ | refine blk_alloc ?_ _)); refine blk_put (cs := #[.int .i64 t228, .bool t229, .int .i64 (wrap64 (Go.bits .and .u8 (rd l0 1) 15)), .int .i64 0, .int .i64 0, .int .i64 0]) ?_ 3 _ rfl; (with_reducible repeat (first | refine blk_drewN ?_ _ | refine blk_drew ?_ | refine blk_alloc ?_ _)); refine blk_put (cs := #[.int .i64 t228, .bool t229, .int .i64 0, .int .i64 0, .int .i64 0, .int .i64 0]) ?_ 2 _ rfl; (with_reducible repeat (first | refine blk_drewN ?_ _ | refine blk_drew ?_ | refine blk_alloc ?_ _)); refine blk_put (cs := #[.int .i64 t228, .bool false, .int .i64 0, .int .i64 0, .int .i64 0, .int .i64 0]) ?_ 1 _ rfl; (with_reducible repeat (first | refine blk_drewN ?_ _ | refine blk_drew ?_ | refine blk_alloc ?_ _)); refine blk_put (cs := #[.int .i64 0, .bool false, .int .i64 0, .int .i64 0, .int .i64 0, .int .i64 0]) ?_ 0 _ rfl; (with_reducible repeat (first | refine blk_drewN ?_ _ | refine blk_drew ?_ | refine blk_alloc ?_ _)); exact BK218.out) hb); have n1_ := Aside0.mk (below_step (by repeat (first | (with_reducible first | exact HB.out | apply below_alloc | apply pw_below_drewN | apply below_drew1 | refine below_set ?_ GE218.out) | exact HB.out)) hb); clear BK218; clear HB; have BK218 := n0_; have HB := n1_; clear n0_ n1_; (try clear hb); (try clear hb2); (try clear hk); (try clear hi)))
                                    have n0_ := Aside0.mk (blk_drew BK218.out)
                                    have n1_ := Aside0.mk (below_drew1 HB.out)
                                    clear BK218
                                    clear HB
                                    have BK218 := n0_
                                    have HB := n1_
                                    clear n0_ n1_
                                    obtain ⟨i099, hi099, _, hsz99, _⟩ := info_parts info5
                                    obtain ⟨A99, hcut99, hA99, hC99⟩ := print_mid_of (P := Tryd.prog) (Value.int .u8) 0 44 5 .i64 .i64 Tryd.underlying44 hi099 hsz99 (some ad219) c0 l0 12 16 (by omega) (by first | omega | exact of_decide_eq_true (by first | (with_reducible assumption) | assumption)) (of_decide_eq_true (by first | (with_reducible assumption) | assumption)) HC0.out
                                    have HR237 := Aside0.mk (Kd.C_of_reads (h1 := fun _ => rfl) (hA99 _ (Kd.reads_of_C HR0.out)))
                                    have HC237 := Aside0.mk hC99
                                    clear hA99 hC99 hi099 hsz99
                                    obtain ⟨i0100, hi0100, _, hsz100, _⟩ := info_parts info5
                                    obtain ⟨A100, hcut100, hA100, hC100⟩ := print_mid_of (P := Tryd.prog) (Value.int .u8) 0 44 5 .i64 .i64 Tryd.underlying44 hi0100 hsz100 (some ad219) c0 l0 4 8 (by omega) (by first | omega | exact of_decide_eq_true (by first | (with_reducible assumption) | assumption)) (of_decide_eq_true (by first | (with_reducible assumption) | assumption)) HC0.out
                                    have HR239 := Aside0.mk (Kd.C_of_reads (h1 := fun _ => rfl) (hA100 _ (Kd.reads_of_C HR0.out)))
                                    have HC239 := Aside0.mk hC100
                                    clear hA100 hC100 hi0100 hsz100
                                    refine start_ (n := 11) (S := fun w' => True) (ds := []) #[false, false, false, false, false, false, false, false, false, false, false] (by kernel_rfl) rfl rfl trivial (fun hHeld => ?_); refine with_tabW slot_Decode.tab18 slot_Decode.bits18 (fun HT_ HW_ => ?_)
                                    generalize w97.drew = w98 at BK218 HB HR237 HR239 hHeld ⊢
                                    refine pure_ (i := 0) (N := some 90) (v := ?_) (a' := ?_) #[true, false, false, false, false, false, false, false, false, false, false] rfl rfl (any_of HT_.out (by kernel_rfl)) (fun _ _ _ h => h) (Or.inl ⟨by rfl, ?_⟩) ?_ ?_
                                    rotate_left
                                    · intro w'
                                      go_simp
                                      with_reducible rfl
                                    rotate_left
                                    · simp only [Act.put, List.setIfInBounds_toArray, List.set_cons_zero, List.set_cons_succ, i64_w, i32_w]
                                      rfl
                                    refine pure_ (i := 1) (N := some 91) (v := ?_) (a' := ?_) #[true, true, false, false, false, false, false, false, false, false, false] rfl rfl (any_of HT_.out (by kernel_rfl)) (fun _ _ _ h => h) (Or.inl ⟨by rfl, ?_⟩) ?_ ?_
                                    rotate_left
                                    · intro w'
                                      go_simp
                                      with_reducible rfl
                                    rotate_left
                                    · simp only [Act.put, List.setIfInBounds_toArray, List.set_cons_zero, List.set_cons_succ, i64_w, i32_w]
                                      rfl
                                    refine pure_ (i := 4) (N := some 94) (v := ?_) (a' := ?_) #[true, true, false, false, true, false, false, false, false, false, false] rfl rfl (any_of HT_.out (by kernel_rfl)) (fun _ _ _ h => h) (Or.inl ⟨by rfl, ?_⟩) ?_ ?_
                                    rotate_left
                                    · intro w'
                                      go_simp
                                      with_reducible rfl
                                    rotate_left
                                    · simp only [Act.put, List.setIfInBounds_toArray, List.set_cons_zero, List.set_cons_succ, i64_w, i32_w]
                                      rfl
                                    refine pure_ (i := 5) (N := some 95) (v := ?_) (a' := ?_) #[true, true, false, false, true, true, false, false, false, false, false] rfl rfl (any_of HT_.out (by kernel_rfl)) (fun _ _ _ h => h) (Or.inl ⟨by rfl, ?_⟩) ?_ ?_
                                    rotate_left
                                    · intro w'
                                      go_simp
                                      with_reducible rfl
                                    rotate_left
                                    · simp only [Act.put, List.setIfInBounds_toArray, List.set_cons_zero, List.set_cons_succ, i64_w, i32_w]
                                      rfl
                                    refine one_ (i := 2) (N := some 92) #[true, true, true, false, true, true, false, false, false, false, false] rfl rfl (one_of HT_.out (by kernel_rfl)) (by decide) (fun K hK => ?_)
                                    refine goes_ Tryd.func69 (by kernel_rfl) rfl #[.slice A99 ((l0.take 16).drop 12).length (c0 - 12)] (by rfl) rfl rfl (by (try simp only [List.map_toArray, List.map_cons, List.map_nil]); first | done | (rw [show ((l0.take 16).drop 12).length = (16 - 12) from (by rw [List.length_drop, List.length_take]; have h_ : (16 : Int) ≤ (l0.length : Int) := of_decide_eq_true (by first | (with_reducible assumption) | assumption); omega)] <;> rfl) | rfl | (simp only [List.length_drop, List.length_take]; rfl)) ?_
                                    with_reducible refine (slot_get.calls k _ _ ((l0.take 16).drop 12) t238 _ ?side1 ?side2 A53.out).mono ?_
                                    (case side1 => repeat (first | exact (Kd.C_below HR237.out HB.out) | (with_reducible refine Kd.C_alloc ?_ _) | (with_reducible refine Kd.C_drewN ?_ _) | (with_reducible refine Kd.C_drew ?_)))
                                    (case side2 => exact HC237.out)
                                    rintro e w101 ⟨rfl, hb⟩
                                    refine ⟨_, rfl, ?_⟩
                                    have n0_ := Aside0.mk (blk_below (g := gb218) (o := .cells #[.int .i64 t228, .bool t229, .int .i64 (wrap64 (Go.bits .and .u8 (rd l0 1) 15)), .int .i64 (wrap64 ((wrap64 ((rd l0 1) / 16)) - t232)), .int .i64 (wrap64 (t223 - t233)), .int .i64 (wrap64 (t226 - t234))] 23 (0, 0)) (by (with_reducible repeat (first | refine blk_drewN ?_ _ | refine blk_drew ?_ | refine blk_alloc ?_ _)); exact BK218.out) hb)
                                    have n1_ := Aside0.mk (below_step (by repeat (first | (with_reducible first | exact HB.out | apply below_alloc | apply pw_below_drewN | apply below_drew1 | refine below_set ?_ GE218.out) | exact HB.out)) hb)
                                    clear BK218
                                    clear HB
                                    have BK218 := n0_
                                    have HB := n1_
                                    clear n0_ n1_
                                    (try clear hb)
                                    (try clear hb2)
                                    (try clear hk)
                                    (try clear hi)
                                    refine hK.out _ _ trivial (fun hHeld => ?_)
                                    clear hK K
                                    refine norm_ (a' := ?_) ?_ ?_
                                    rotate_left
                                    · show Act.put _ (some 92) _ = _
                                      simp only [Act.put, List.setIfInBounds_toArray, List.set_cons_zero, List.set_cons_succ, i64_w, i32_w]
                                      rfl
                                    refine pure_ (i := 3) (N := some 93) (v := ?_) (a' := ?_) #[true, true, true, true, true, true, false, false, false, false, false] rfl rfl (any_of HT_.out (by kernel_rfl)) (fun _ _ _ h => h) (Or.inl ⟨by rfl, ?_⟩) ?_ ?_
                                    rotate_left
                                    · intro w'
                                      go_simp
                                      with_reducible rfl
                                    rotate_left
                                    · simp only [Act.put, List.setIfInBounds_toArray, List.set_cons_zero, List.set_cons_succ, i64_w, i32_w]
                                      rfl
                                    refine one_ (i := 6) (N := some 96) #[true, true, true, true, true, true, true, false, false, false, false] rfl rfl (one_of HT_.out (by kernel_rfl)) (by decide) (fun K hK => ?_)
                                    refine goes_ Tryd.func69 (by kernel_rfl) rfl #[.slice A100 ((l0.take 8).drop 4).length (c0 - 4)] (by rfl) rfl rfl (by (try simp only [List.map_toArray, List.map_cons, List.map_nil]); first | done | (rw [show ((l0.take 8).drop 4).length = (8 - 4) from (by rw [List.length_drop, List.length_take]; have h_ : (8 : Int) ≤ (l0.length : Int) := of_decide_eq_true (by first | (with_reducible assumption) | assumption); omega)] <;> rfl) | rfl | (simp only [List.length_drop, List.length_take]; rfl)) ?_
                                    with_reducible refine (slot_get.calls k _ _ ((l0.take 8).drop 4) t240 _ ?side1 ?side2 A56.out).mono ?_
                                    (case side1 => repeat (first | exact (Kd.C_below HR239.out HB.out) | (with_reducible refine Kd.C_alloc ?_ _) | (with_reducible refine Kd.C_drewN ?_ _) | (with_reducible refine Kd.C_drew ?_)))
                                    (case side2 => exact HC239.out)
                                    rintro e w102 ⟨rfl, hb⟩
                                    refine ⟨_, rfl, ?_⟩
                                    have n0_ := Aside0.mk (blk_below (g := gb218) (o := .cells #[.int .i64 t228, .bool t229, .int .i64 (wrap64 (Go.bits .and .u8 (rd l0 1) 15)), .int .i64 (wrap64 ((wrap64 ((rd l0 1) / 16)) - t232)), .int .i64 (wrap64 (t223 - t233)), .int .i64 (wrap64 (t226 - t234))] 23 (0, 0)) (by (with_reducible repeat (first | refine blk_drewN ?_ _ | refine blk_drew ?_ | refine blk_alloc ?_ _)); exact BK218.out) hb)
                                    have n1_ := Aside0.mk (below_step (by repeat (first | (with_reducible first | exact HB.out | apply below_alloc | apply pw_below_drewN | apply below_drew1 | refine below_set ?_ GE218.out) | exact HB.out)) hb)
                                    clear BK218
                                    clear HB
                                    have BK218 := n0_
                                    have HB := n1_
                                    clear n0_ n1_
                                    (try clear hb)
                                    (try clear hb2)
                                    (try clear hk)
                                    (try clear hi)
                                    refine hK.out _ _ trivial (fun hHeld => ?_)
                                    clear hK K
                                    refine norm_ (a' := ?_) ?_ ?_
                                    rotate_left
                                    · show Act.put _ (some 96) _ = _
                                      simp only [Act.put, List.setIfInBounds_toArray, List.set_cons_zero, List.set_cons_succ, i64_w, i32_w]
                                      rfl
                                    refine pure_ (i := 7) (N := some 97) (v := ?_) (a' := ?_) #[true, true, true, true, true, true, true, true, false, false, false] rfl rfl (any_of HT_.out (by kernel_rfl)) (fun _ _ _ h => h) (Or.inl ⟨by rfl, ?_⟩) ?_ ?_
                                    rotate_left
                                    · intro w'
                                      go_simp
                                      with_reducible rfl
                                    rotate_left
                                    · simp only [Act.put, List.setIfInBounds_toArray, List.set_cons_zero, List.set_cons_succ, i64_w, i32_w]
                                      rfl
                                    refine pure_ (i := 8) (N := some 98) (v := ?_) (a' := ?_) #[true, true, true, true, true, true, true, true, true, false, false] rfl rfl (any_of HT_.out (by kernel_rfl)) (fun _ _ _ h => h) (Or.inl ⟨by rfl, ?_⟩) ?_ ?_
                                    rotate_left
                                    · intro w'
                                      go_simp
                                      with_reducible rfl
                                    rotate_left
                                    · simp only [Act.put, List.setIfInBounds_toArray, List.set_cons_zero, List.set_cons_succ, i64_w, i32_w]
                                      rfl
                                    refine pure_ (i := 9) (N := some 99) (v := ?_) (a' := ?_) #[true, true, true, true, true, true, true, true, true, true, false] rfl rfl (any_of HT_.out (by kernel_rfl)) (fun _ _ _ h => h) (Or.inl ⟨by rfl, ?_⟩) ?_ ?_
                                    rotate_left
                                    · intro w'
                                      go_simp
                                      with_reducible rfl
                                    rotate_left
                                    · simp only [Act.put, List.setIfInBounds_toArray, List.set_cons_zero, List.set_cons_succ, i64_w, i32_w]
                                      rfl
                                    refine one_ (i := 10) (N := none) #[true, true, true, true, true, true, true, true, true, true, true] rfl rfl (one_of HT_.out (by kernel_rfl)) (by decide) (fun K hK => ?_)
                                    have hs103 : w102.cell? ⟨gb218, 5, none⟩ = some (.int .i64 (wrap64 (t226 - t234))) := (blk_cell BK218.out 5).trans rfl
                                    have hfs103 := blk_frozen BK218.out 5
                                    refine skip_ (by rfl) rfl (run_store_at (P := Tryd.prog) rfl rfl rfl (fun w => by first | exact Tryd.sizeOf2 w | go_simp) (by with_reducible first | exact hs103 | exact (World.cell?_drewN _ _ _).trans hs103 | exact (World.cell?_drewN _ _ _).trans ((World.cell?_drewN _ _ _).trans hs103)) (by with_reducible first | exact hfs103 | exact (World.frozen?_drewN _ _ _).trans hfs103 | exact (World.frozen?_drewN _ _ _).trans ((World.frozen?_drewN _ _ _).trans hfs103))) ?_
                                    refine hK.out _ _ trivial (fun hHeld => ?_)
                                    clear hK K
                                    refine done_ (done_of HT_.out (by kernel_rfl)) ?_
                                    have hcz104_0 : w102.cell? ⟨gb218, 0, none⟩ = some (.int .i64 t228) := (blk_cell BK218.out 0).trans rfl
                                    have hcz104_1 : w102.cell? ⟨gb218, 1, none⟩ = some (.bool t229) := (blk_cell BK218.out 1).trans rfl
                                    have hcz104_2 : w102.cell? ⟨gb218, 2, none⟩ = some (.int .i64 (wrap64 (Go.bits .and .u8 (rd l0 1) 15))) := (blk_cell BK218.out 2).trans rfl
                                    have hcz104_3 : w102.cell? ⟨gb218, 3, none⟩ = some (.int .i64 (wrap64 ((wrap64 ((rd l0 1) / 16)) - t232))) := (blk_cell BK218.out 3).trans rfl
                                    have hcz104_4 : w102.cell? ⟨gb218, 4, none⟩ = some (.int .i64 (wrap64 (t223 - t233))) := (blk_cell BK218.out 4).trans rfl
                                    have hcz104_5 : w102.cell? ⟨gb218, 5, none⟩ = some (.int .i64 (wrap64 (t226 - t234))) := (blk_cell BK218.out 5).trans rfl
                                    have hfz104_0 := blk_frozen BK218.out 0
                                    have hfz104_1 := blk_frozen BK218.out 1
                                    have hfz104_2 := blk_frozen BK218.out 2
                                    have hfz104_3 := blk_frozen BK218.out 3
                                    have hfz104_4 := blk_frozen BK218.out 4
                                    have hfz104_5 := blk_frozen BK218.out 5
                                    try go_wp2_with (first | ((with_reducible refine gate_callee (f := 55) rfl ?_); refine goesL_ (some 101) rfl rfl Tryd.func55 (by kernel_rfl) rfl #[.agg #[.int .i64 t228, .bool t229, .int .i64 (wrap64 (Go.bits .and .u8 (rd l0 1) 15)), .int .i64 (wrap64 ((wrap64 ((rd l0 1) / 16)) - t232)), .int .i64 (wrap64 (t223 - t233)), .int .i64 (wrap64 (Go.bits .or .u64 (IntKind.u64.wrap (t238 * 4294967296)) t240))]] rfl (by (try simp only [List.map_toArray, List.map_cons, List.map_nil]); first | done | rfl | (simp only [List.length_drop, List.length_take]; rfl)) ?_; (with_reducible refine (insn_Check.calls t228 t229 (wrap64 (Go.bits .and .u8 (rd l0 1) 15)) (wrap64 ((wrap64 ((rd l0 1) / 16)) - t232)) (wrap64 (t223 - t233)) (wrap64 (Go.bits .or .u64 (IntKind.u64.wrap (t238 * 4294967296)) t240)) t241 _ A57.out (G_at hG (by repeat (first | (with_reducible first | exact HB.out | apply below_alloc | apply pw_below_drewN | apply below_drew1 | refine below_set ?_ GE218.out) | exact HB.out)))).mono ?_); rintro e w105 ⟨rfl, hb⟩; refine ⟨_, rfl, ?_⟩; have n0_ := Aside0.mk (blk_below (g := gb218) (o := .cells #[.int .i64 t228, .bool t229, .int .i64 (wrap64 (Go.bits .and .u8 (rd l0 1) 15)), .int .i64 (wrap64 ((wrap64 ((rd l0 1) / 16)) - t232)), .int .i64 (wrap64 (t223 - t233)), .int .i64 (wrap64 (Go.bits .or .u64 (IntKind.u64.wrap (t238 * 4294967296)) t240))] 23 (0, 0)) (by (with_reducible repeat (first | refine blk_drewN ?_ _ | refine blk_drew ?_ | refine blk_alloc ?_ _)); refine blk_put (cs := #[.int .i64 t228, .bool t229, .int .i64 (wrap64 (Go.bits .and .u8 (rd l0 1) 15)), .int .i64 (wrap64 ((wrap64 ((rd l0 1) / 16)) - t232)), .int .i64 (wrap64 (t223 - t233)), .int .i64 (wrap64 (t226 - t234))]) ?_ 5 _ rfl; (with_reducible repeat (first | refine blk_drewN ?_ _ | refine blk_drew ?_ | refine blk_alloc ?_ _)); exact BK218.out) hb); have n1_ := Aside0.mk (below_step (by repeat (first | (with_reducible first | exact HB.out | apply below_alloc | apply pw_below_drewN | apply below_drew1 | refine below_set ?_ GE218.out) | exact HB.out)) hb); clear BK218; clear HB; have BK218 := n0_; have HB := n1_; clear n0_ n1_; (try clear hb); (try clear hb2); (try clear hk); (try clear hi); have hcz106_0 : w105.cell? ⟨gb218, 0, none⟩ = some (.int .i64 t228) := (blk_cell BK218.out 0).trans rfl; have hcz106_1 : w105.cell? ⟨gb218, 1, none⟩ = some (.bool t229) := (blk_cell BK218.out 1).trans rfl; have hcz106_2 : w105.cell? ⟨gb218, 2, none⟩ = some (.int .i64 (wrap64 (Go.bits .and .u8 (rd l0 1) 15))) := (blk_cell BK218.out 2).trans rfl; have hcz106_3 : w105.cell? ⟨gb218, 3, none⟩ = some (.int .i64 (wrap64 ((wrap64 ((rd l0 1) / 16)) - t232))) := (blk_cell BK218.out 3).trans rfl; have hcz106_4 : w105.cell? ⟨gb218, 4, none⟩ = some (.int .i64 (wrap64 (t223 - t233))) := (blk_cell BK218.out 4).trans rfl; have hcz106_5 : w105.cell? ⟨gb218, 5, none⟩ = some (.int .i64 (wrap64 (Go.bits .or .u64 (IntKind.u64.wrap (t238 * 4294967296)) t240))) := (blk_cell BK218.out 5).trans rfl; have hfz106_0 := blk_frozen BK218.out 0; have hfz106_1 := blk_frozen BK218.out 1; have hfz106_2 := blk_frozen BK218.out 2; have hfz106_3 := blk_frozen BK218.out 3; have hfz106_4 := blk_frozen BK218.out 4; have hfz106_5 := blk_frozen BK218.out 5))
                                    refine bodyPost_ret (results_ctt rfl _ _ gb218 23 #[.int .i64 0, .bool false, .int .i64 0, .int .i64 0, .int .i64 0, .int .i64 0] (0, 0) _ rfl (by (with_reducible repeat (first | refine blk_drewN ?_ _ | refine blk_drew ?_ | refine blk_alloc ?_ _)); refine blk_put (cs := #[.int .i64 0, .bool false, .int .i64 0, .int .i64 0, .int .i64 0, .int .i64 (wrap64 (Go.bits .or .u64 (IntKind.u64.wrap (t238 * 4294967296)) t240))]) ?_ 5 _ rfl; (with_reducible repeat (first | refine blk_drewN ?_ _ | refine blk_drew ?_ | refine blk_alloc ?_ _)); refine blk_put (cs := #[.int .i64 0, .bool false, .int .i64 0, .int .i64 0, .int .i64 (wrap64 (t223 - t233)), .int .i64 (wrap64 (Go.bits .or .u64 (IntKind.u64.wrap (t238 * 4294967296)) t240))]) ?_ 4 _ rfl; (with_reducible repeat (first | refine blk_drewN ?_ _ | refine blk_drew ?_ | refine blk_alloc ?_ _)); refine blk_put (cs := #[.int .i64 0, .bool false, .int .i64 0, .int .i64 (wrap64 ((wrap64 ((rd l0 1) / 16)) - t232)), .int .i64 (wrap64 (t223 - t233)), .int .i64 (wrap64 (Go.bits .or .u64 (IntKind.u64.wrap (t238 * 4294967296)) t240))]) ?_ 3 _ rfl; (with_reducible repeat (first | refine blk_drewN ?_ _ | refine blk_drew ?_ | refine blk_alloc ?_ _)); refine blk_put (cs := #[.int .i64 0, .bool false, .int .i64 (wrap64 (Go.bits .and .u8 (rd l0 1) 15)), .int .i64 (wrap64 ((wrap64 ((rd l0 1) / 16)) - t232)), .int .i64 (wrap64 (t223 - t233)), .int .i64 (wrap64 (Go.bits .or .u64 (IntKind.u64.wrap (t238 * 4294967296)) t240))]) ?_ 2 _ rfl; (with_reducible repeat (first | refine blk_drewN ?_ _ | refine blk_drew ?_ | refine blk_alloc ?_ _)); refine blk_put (cs := #[.int .i64 0, .bool t229, .int .i64 (wrap64 (Go.bits .and .u8 (rd l0 1) 15)), .int .i64 (wrap64 ((wrap64 ((rd l0 1) / 16)) - t232)), .int .i64 (wrap64 (t223 - t233)), .int .i64 (wrap64 (Go.bits .or .u64 (IntKind.u64.wrap (t238 * 4294967296)) t240))]) ?_ 1 _ rfl; (with_reducible repeat (first | refine blk_drewN ?_ _ | refine blk_drew ?_ | refine blk_alloc ?_ _)); refine blk_put (cs := #[.int .i64 t228, .bool t229, .int .i64 (wrap64 (Go.bits .and .u8 (rd l0 1) 15)), .int .i64 (wrap64 ((wrap64 ((rd l0 1) / 16)) - t232)), .int .i64 (wrap64 (t223 - t233)), .int .i64 (wrap64 (Go.bits .or .u64 (IntKind.u64.wrap (t238 * 4294967296)) t240))]) ?_ 0 _ rfl; (with_reducible repeat (first | refine blk_drewN ?_ _ | refine blk_drew ?_ | refine blk_alloc ?_ _)); exact BK218.out) Tryd.underlying23 rfl (by kernel_rfl)) rfl ?_
                                    exact ⟨by first | rfl | (simp [errW_none, errW_some] <;> rfl) | (simp only [← hji31]; first | rfl | (simp [errW_none, errW_some] <;> rfl)) | (simp [*, errW_none, errW_some] <;> rfl), by repeat (first | (with_reducible first | exact HB.out | apply below_alloc | apply pw_below_drewN | apply below_drew1 | refine below_set ?_ GE218.out) | exact HB.out)⟩
                                · rw [if_neg c52] at H
                                  exact absurd H (by simp)
                              · rw [if_neg c51] at H
                                exact absurd H (by simp)
                            · rw [if_neg c50] at H
                              have c50b0 : (t236 == 0) = false := beq_eq_false_iff_ne.mpr c50
                              have c50b1 : (t236 != 0) = true := bne_iff_ne.mpr c50
                              simp only [Option.some.injEq, Prod.mk.injEq] at H
                              obtain ⟨rfl, rfl, rfl, rfl, rfl, rfl, rfl, rfl⟩ := H
                              have p227 : 0 ≤ (0 : Int) := (by omega)
                              have q227 : 0 < (l0.length : Int) := of_decide_eq_true (by first | (with_reducible assumption) | assumption)
                              obtain ⟨ad227, e227, hx227_0⟩ := Kd.at_int HR0.out 0 p227 q227
                              obtain rfl : ad219 = ad227 := (by injection e227)
                              have qi227 : (0 < l0.length) = True := eq_true (by omega)
                              (try rw [show ((0 : Int)).toNat = 0 from rfl] at hx227_0)
                              (try rw [Addr.add_zero'] at hx227_0)
                              replace hx227_0 := (HB.out.cell (World.block_lt_of_cell? w _ hx227_0)).trans hx227_0
                              replace p227 := eq_true p227
                              replace q227 := eq_true q227
                              try go_wp2_with (first | ((with_reducible refine gate_callee (f := 70) rfl ?_); refine goesL_ (some 44) rfl rfl Tryd.func70 (by kernel_rfl) rfl #[.int .u8 (rd l0 0), .int .i64 (wrap64 ((rd l0 1) / 16)), .int .i64 t223, .int .i64 t226] rfl (by (try simp only [List.map_toArray, List.map_cons, List.map_nil]); first | done | rfl | (simp only [List.length_drop, List.length_take]; rfl)) ?_; (with_reducible refine (ops_Identify.calls (rd l0 0) (wrap64 ((rd l0 1) / 16)) t223 t226 t228 t229 true _ A15.out (G_at hG (by repeat (first | (with_reducible first | exact HB.out | apply below_alloc | apply pw_below_drewN | apply below_drew1 | refine below_set ?_ GE218.out) | exact HB.out)))).mono ?_); rintro e w116 ⟨rfl, hb⟩; refine ⟨_, rfl, ?_⟩; have n0_ := Aside0.mk (blk_below (g := gb218) (o := .cells #[.int .i64 0, .bool false, .int .i64 0, .int .i64 0, .int .i64 0, .int .i64 0] 23 (0, 0)) (by (with_reducible repeat (first | refine blk_drewN ?_ _ | refine blk_drew ?_ | refine blk_alloc ?_ _)); exact BK218.out) hb); have n1_ := Aside0.mk (below_step (by repeat (first | (with_reducible first | exact HB.out | apply below_alloc | apply pw_below_drewN | apply below_drew1 | refine below_set ?_ GE218.out) | exact HB.out)) hb); clear BK218; clear HB; have BK218 := n0_; have HB := n1_; clear n0_ n1_; (try clear hb); (try clear hb2); (try clear hk); (try clear hi)) | ((with_reducible refine gate_callee (f := 59) rfl ?_); refine goesL_ (some 52) rfl rfl Tryd.func59 (by kernel_rfl) rfl #[.int .i64 t228] rfl (by (try simp only [List.map_toArray, List.map_cons, List.map_nil]); first | done | rfl | (simp only [List.length_drop, List.length_take]; rfl)) ?_; (with_reducible refine (insn_Slots.calls t228 t231 _ A17.out (G_at hG (by repeat (first | (with_reducible first | exact HB.out | apply below_alloc | apply pw_below_drewN | apply below_drew1 | refine below_set ?_ GE218.out) | exact HB.out)))).mono ?_); rintro e w117 ⟨rfl, hb⟩; refine ⟨_, rfl, ?_⟩; have n0_ := Aside0.mk (blk_below (g := gb218) (o := .cells #[.int .i64 0, .bool false, .int .i64 0, .int .i64 0, .int .i64 0, .int .i64 0] 23 (0, 0)) (by (with_reducible repeat (first | refine blk_drewN ?_ _ | refine blk_drew ?_ | refine blk_alloc ?_ _)); exact BK218.out) hb); have n1_ := Aside0.mk (below_step (by repeat (first | (with_reducible first | exact HB.out | apply below_alloc | apply pw_below_drewN | apply below_drew1 | refine below_set ?_ GE218.out) | exact HB.out)) hb); clear BK218; clear HB; have BK218 := n0_; have HB := n1_; clear n0_ n1_; (try clear hb); (try clear hb2); (try clear hk); (try clear hi)) | ((with_reducible refine gate_callee (f := 44) rfl ?_); refine goesL_ (some 66) rfl rfl Tryd.func44 (by kernel_rfl) rfl #[.int .i64 t228] rfl (by (try simp only [List.map_toArray, List.map_cons, List.map_nil]); first | done | rfl | (simp only [List.length_drop, List.length_take]; rfl)) ?_; (with_reducible refine (ops_Fixed.calls t228 t232 t233 t234 _ A45.out (G_at hG (by repeat (first | (with_reducible first | exact HB.out | apply below_alloc | apply pw_below_drewN | apply below_drew1 | refine below_set ?_ GE218.out) | exact HB.out)))).mono ?_); rintro e w118 ⟨rfl, hb⟩; refine ⟨_, rfl, ?_⟩; have n0_ := Aside0.mk (blk_below (g := gb218) (o := .cells #[.int .i64 0, .bool false, .int .i64 0, .int .i64 0, .int .i64 0, .int .i64 0] 23 (0, 0)) (by (with_reducible repeat (first | refine blk_drewN ?_ _ | refine blk_drew ?_ | refine blk_alloc ?_ _)); exact BK218.out) hb); have n1_ := Aside0.mk (below_step (by repeat (first | (with_reducible first | exact HB.out | apply below_alloc | apply pw_below_drewN | apply below_drew1 | refine below_set ?_ GE218.out) | exact HB.out)) hb); clear BK218; clear HB; have BK218 := n0_; have HB := n1_; clear n0_ n1_; (try clear hb); (try clear hb2); (try clear hk); (try clear hi); have hcz119_0 : w118.cell? ⟨gb218, 0, none⟩ = some (.int .i64 0) := (blk_cell BK218.out 0).trans rfl; have hcz119_1 : w118.cell? ⟨gb218, 1, none⟩ = some (.bool false) := (blk_cell BK218.out 1).trans rfl; have hcz119_2 : w118.cell? ⟨gb218, 2, none⟩ = some (.int .i64 0) := (blk_cell BK218.out 2).trans rfl; have hcz119_3 : w118.cell? ⟨gb218, 3, none⟩ = some (.int .i64 0) := (blk_cell BK218.out 3).trans rfl; have hcz119_4 : w118.cell? ⟨gb218, 4, none⟩ = some (.int .i64 0) := (blk_cell BK218.out 4).trans rfl; have hcz119_5 : w118.cell? ⟨gb218, 5, none⟩ = some (.int .i64 0) := (blk_cell BK218.out 5).trans rfl; have hfz119_0 := blk_frozen BK218.out 0; have hfz119_1 := blk_frozen BK218.out 1; have hfz119_2 := blk_frozen BK218.out 2; have hfz119_3 := blk_frozen BK218.out 3; have hfz119_4 := blk_frozen BK218.out 4; have hfz119_5 := blk_frozen BK218.out 5; obtain ⟨i0120, hi0120, _, hsz120, _⟩ := info_parts info5; obtain ⟨A120, hcut120, hA120, hC120⟩ := print_mid_of (P := Tryd.prog) (Value.int .u8) 0 44 5 .i64 .i64 Tryd.underlying44 hi0120 hsz120 (some ad219) c0 l0 8 12 (by omega) (by first | omega | exact of_decide_eq_true (by first | (with_reducible assumption) | assumption)) (of_decide_eq_true (by first | (with_reducible assumption) | assumption)) HC0.out; have HR235 := Aside0.mk (Kd.C_of_reads (h1 := fun _ => rfl) (hA120 _ (Kd.reads_of_C HR0.out))); have HC235 := Aside0.mk hC120; clear hA120 hC120 hi0120 hsz120) | ((with_reducible refine gate_callee (f := 69) rfl ?_); refine goesL_ (some 87) rfl rfl Tryd.func69 (by kernel_rfl) rfl #[.slice A120 ((l0.take 12).drop 8).length (c0 - 8)] rfl (by (try simp only [List.map_toArray, List.map_cons, List.map_nil]); first | done | (rw [show ((l0.take 12).drop 8).length = (12 - 8) from (by rw [List.length_drop, List.length_take]; have h_ : (12 : Int) ≤ (l0.length : Int) := of_decide_eq_true (by first | (with_reducible assumption) | assumption); omega)] <;> rfl) | rfl | (simp only [List.length_drop, List.length_take]; rfl)) ?_; (with_reducible refine (slot_get.calls k _ _ ((l0.take 12).drop 8) t236 _ ?side1 ?side2 A49.out).mono ?_); (case side1 => exact Kd.C_below HR235.out (by repeat (first | (with_reducible first | exact HB.out | apply below_alloc | apply pw_below_drewN | apply below_drew1 | refine below_set ?_ GE218.out) | exact HB.out))); (case side2 => exact HC235.out); rintro e w121 ⟨rfl, hb⟩; refine ⟨_, rfl, ?_⟩; have n0_ := Aside0.mk (blk_below (g := gb218) (o := .cells #[.int .i64 t228, .bool t229, .int .i64 (wrap64 (Go.bits .and .u8 (rd l0 1) 15)), .int .i64 (wrap64 ((wrap64 ((rd l0 1) / 16)) - t232)), .int .i64 (wrap64 (t223 - t233)), .int .i64 (wrap64 (t226 - t234))] 23 (0, 0)) (by (with_reducible repeat (first | refine blk_drewN ?_ _ | refine blk_drew ?_ | refine blk_alloc ?_ _)); refine blk_put (cs := #[.int .i64 t228, .bool t229, .int .i64 (wrap64 (Go.bits .and .u8 (rd l0 1) 15)), .int .i64 (wrap64 ((wrap64 ((rd l0 1) / 16)) - t232)), .int .i64 (wrap64 (t223 - t233)), .int .i64 0]) ?_ 5 _ rfl; (with_reducible repeat (first | refine blk_drewN ?_ _ | refine blk_drew ?_ | refine blk_alloc ?_ _)); refine blk_put (cs := #[.int .i64 t228, .bool t229, .int .i64 (wrap64 (Go.bits .and .u8 (rd l0 1) 15)), .int .i64 (wrap64 ((wrap64 ((rd l0 1) / 16)) - t232)), .int .i64 0, .int .i64 0]) ?_ 4 _ rfl; (with_reducible repeat (first | refine blk_drewN ?_ _ | refine blk_drew ?_ | refine blk_alloc ?_ _)); refine blk_put (cs := #[.int .i64 t228, .bool t229, .int .i64 (wrap64 (Go.bits .and .u8 (rd l0 1) 15)), .int .i64 0, .int .i64 0, .int .i64 0]) ?_ 3 _ rfl; (with_reducible repeat (first | refine blk_drewN ?_ _ | refine blk_drew ?_ | refine blk_alloc ?_ _)); refine blk_put (cs := #[.int .i64 t228, .bool t229, .int .i64 0, .int .i64 0, .int .i64 0, .int .i64 0]) ?_ 2 _ rfl; (with_reducible repeat (first | refine blk_drewN ?_ _ | refine blk_drew ?_ | refine blk_alloc ?_ _)); refine blk_put (cs := #[.int .i64 t228, .bool false, .int .i64 0, .int .i64 0, .int .i64 0, .int .i64 0]) ?_ 1 _ rfl; (with_reducible repeat (first | refine blk_drewN ?_ _ | refine blk_drew ?_ | refine blk_alloc ?_ _)); refine blk_put (cs := #[.int .i64 0, .bool false, .int .i64 0, .int .i64 0, .int .i64 0, .int .i64 0]) ?_ 0 _ rfl; (with_reducible repeat (first | refine blk_drewN ?_ _ | refine blk_drew ?_ | refine blk_alloc ?_ _)); exact BK218.out) hb); have n1_ := Aside0.mk (below_step (by repeat (first | (with_reducible first | exact HB.out | apply below_alloc | apply pw_below_drewN | apply below_drew1 | refine below_set ?_ GE218.out) | exact HB.out)) hb); clear BK218; clear HB; have BK218 := n0_; have HB := n1_; clear n0_ n1_; (try clear hb); (try clear hb2); (try clear hk); (try clear hi); have hcz122_0 : w121.cell? ⟨gb218, 0, none⟩ = some (.int .i64 t228) := (blk_cell BK218.out 0).trans rfl; have hcz122_1 : w121.cell? ⟨gb218, 1, none⟩ = some (.bool t229) := (blk_cell BK218.out 1).trans rfl; have hcz122_2 : w121.cell? ⟨gb218, 2, none⟩ = some (.int .i64 (wrap64 (Go.bits .and .u8 (rd l0 1) 15))) := (blk_cell BK218.out 2).trans rfl; have hcz122_3 : w121.cell? ⟨gb218, 3, none⟩ = some (.int .i64 (wrap64 ((wrap64 ((rd l0 1) / 16)) - t232))) := (blk_cell BK218.out 3).trans rfl; have hcz122_4 : w121.cell? ⟨gb218, 4, none⟩ = some (.int .i64 (wrap64 (t223 - t233))) := (blk_cell BK218.out 4).trans rfl; have hcz122_5 : w121.cell? ⟨gb218, 5, none⟩ = some (.int .i64 (wrap64 (t226 - t234))) := (blk_cell BK218.out 5).trans rfl; have hfz122_0 := blk_frozen BK218.out 0; have hfz122_1 := blk_frozen BK218.out 1; have hfz122_2 := blk_frozen BK218.out 2; have hfz122_3 := blk_frozen BK218.out 3; have hfz122_4 := blk_frozen BK218.out 4; have hfz122_5 := blk_frozen BK218.out 5))
                              refine bodyPost_ret (results_ctt rfl _ _ gb218 23 #[.int .i64 0, .bool false, .int .i64 0, .int .i64 0, .int .i64 0, .int .i64 0] (0, 0) _ rfl (by (with_reducible repeat (first | refine blk_drewN ?_ _ | refine blk_drew ?_ | refine blk_alloc ?_ _)); refine blk_put (cs := #[.int .i64 0, .bool false, .int .i64 0, .int .i64 0, .int .i64 0, .int .i64 (wrap64 (t226 - t234))]) ?_ 5 _ rfl; (with_reducible repeat (first | refine blk_drewN ?_ _ | refine blk_drew ?_ | refine blk_alloc ?_ _)); refine blk_put (cs := #[.int .i64 0, .bool false, .int .i64 0, .int .i64 0, .int .i64 (wrap64 (t223 - t233)), .int .i64 (wrap64 (t226 - t234))]) ?_ 4 _ rfl; (with_reducible repeat (first | refine blk_drewN ?_ _ | refine blk_drew ?_ | refine blk_alloc ?_ _)); refine blk_put (cs := #[.int .i64 0, .bool false, .int .i64 0, .int .i64 (wrap64 ((wrap64 ((rd l0 1) / 16)) - t232)), .int .i64 (wrap64 (t223 - t233)), .int .i64 (wrap64 (t226 - t234))]) ?_ 3 _ rfl; (with_reducible repeat (first | refine blk_drewN ?_ _ | refine blk_drew ?_ | refine blk_alloc ?_ _)); refine blk_put (cs := #[.int .i64 0, .bool false, .int .i64 (wrap64 (Go.bits .and .u8 (rd l0 1) 15)), .int .i64 (wrap64 ((wrap64 ((rd l0 1) / 16)) - t232)), .int .i64 (wrap64 (t223 - t233)), .int .i64 (wrap64 (t226 - t234))]) ?_ 2 _ rfl; (with_reducible repeat (first | refine blk_drewN ?_ _ | refine blk_drew ?_ | refine blk_alloc ?_ _)); refine blk_put (cs := #[.int .i64 0, .bool t229, .int .i64 (wrap64 (Go.bits .and .u8 (rd l0 1) 15)), .int .i64 (wrap64 ((wrap64 ((rd l0 1) / 16)) - t232)), .int .i64 (wrap64 (t223 - t233)), .int .i64 (wrap64 (t226 - t234))]) ?_ 1 _ rfl; (with_reducible repeat (first | refine blk_drewN ?_ _ | refine blk_drew ?_ | refine blk_alloc ?_ _)); refine blk_put (cs := #[.int .i64 t228, .bool t229, .int .i64 (wrap64 (Go.bits .and .u8 (rd l0 1) 15)), .int .i64 (wrap64 ((wrap64 ((rd l0 1) / 16)) - t232)), .int .i64 (wrap64 (t223 - t233)), .int .i64 (wrap64 (t226 - t234))]) ?_ 0 _ rfl; (with_reducible repeat (first | refine blk_drewN ?_ _ | refine blk_drew ?_ | refine blk_alloc ?_ _)); exact BK218.out) Tryd.underlying23 rfl (by kernel_rfl)) rfl ?_
                              exact ⟨by first | rfl | (simp [errW_none, errW_some] <;> rfl) | (simp only [← hji31]; first | rfl | (simp [errW_none, errW_some] <;> rfl)) | (simp [*, errW_none, errW_some] <;> rfl), by repeat (first | (with_reducible first | exact HB.out | apply below_alloc | apply pw_below_drewN | apply below_drew1 | refine below_set ?_ GE218.out) | exact HB.out)⟩
                          · rw [if_neg c48] at H
                            exact absurd H (by simp)
                        · rw [if_neg c47] at H
                          exact absurd H (by simp)
                      · rw [if_neg c46] at H
                        have c46b0 : (t231 == 2) = false := beq_eq_false_iff_ne.mpr c46
                        have c46b1 : (t231 != 2) = true := bne_iff_ne.mpr c46
                        replace H := Option.bind_eq_some_iff.mp H
                        obtain ⟨t242, A1230, H⟩ := H
                        replace H : (if t242 = 0 then (some (t228, t229, wrap64 (Go.bits .and .u8 (rd l0 1) 15), wrap64 ((wrap64 ((rd l0 1) / 16)) - t232), wrap64 (t223 - t233), wrap64 (t226 - t234), t231, 0)) else (some (0, false, 0, 0, 0, 0, 0, 12))) = some (r1, r2, r3, r4, r5, r6, r7, r8) := H
                        have A123 := Aside0.mk A1230
                        clear A1230
                        by_cases c124 : t242 = 0
                        · rw [if_pos c124] at H
                          have c124b0 : (t242 == 0) = true := beq_iff_eq.mpr c124
                          have c124b1 : (t242 != 0) = false := bne_eq_false_iff_eq.mpr c124
                          clear c124
                          simp only [Option.some.injEq, Prod.mk.injEq] at H
                          obtain ⟨rfl, rfl, rfl, rfl, rfl, rfl, rfl, rfl⟩ := H
                          have p227 : 0 ≤ (0 : Int) := (by omega)
                          have q227 : 0 < (l0.length : Int) := of_decide_eq_true (by first | (with_reducible assumption) | assumption)
                          obtain ⟨ad227, e227, hx227_0⟩ := Kd.at_int HR0.out 0 p227 q227
                          obtain rfl : ad219 = ad227 := (by injection e227)
                          have qi227 : (0 < l0.length) = True := eq_true (by omega)
                          (try rw [show ((0 : Int)).toNat = 0 from rfl] at hx227_0)
                          (try rw [Addr.add_zero'] at hx227_0)
                          replace hx227_0 := (HB.out.cell (World.block_lt_of_cell? w _ hx227_0)).trans hx227_0
                          replace p227 := eq_true p227
                          replace q227 := eq_true q227
                          try go_wp2_with (first | ((with_reducible refine gate_callee (f := 70) rfl ?_); refine goesL_ (some 44) rfl rfl Tryd.func70 (by kernel_rfl) rfl #[.int .u8 (rd l0 0), .int .i64 (wrap64 ((rd l0 1) / 16)), .int .i64 t223, .int .i64 t226] rfl (by (try simp only [List.map_toArray, List.map_cons, List.map_nil]); first | done | rfl | (simp only [List.length_drop, List.length_take]; rfl)) ?_; (with_reducible refine (ops_Identify.calls (rd l0 0) (wrap64 ((rd l0 1) / 16)) t223 t226 t228 t229 true _ A15.out (G_at hG (by repeat (first | (with_reducible first | exact HB.out | apply below_alloc | apply pw_below_drewN | apply below_drew1 | refine below_set ?_ GE218.out) | exact HB.out)))).mono ?_); rintro e w134 ⟨rfl, hb⟩; refine ⟨_, rfl, ?_⟩; have n0_ := Aside0.mk (blk_below (g := gb218) (o := .cells #[.int .i64 0, .bool false, .int .i64 0, .int .i64 0, .int .i64 0, .int .i64 0] 23 (0, 0)) (by (with_reducible repeat (first | refine blk_drewN ?_ _ | refine blk_drew ?_ | refine blk_alloc ?_ _)); exact BK218.out) hb); have n1_ := Aside0.mk (below_step (by repeat (first | (with_reducible first | exact HB.out | apply below_alloc | apply pw_below_drewN | apply below_drew1 | refine below_set ?_ GE218.out) | exact HB.out)) hb); clear BK218; clear HB; have BK218 := n0_; have HB := n1_; clear n0_ n1_; (try clear hb); (try clear hb2); (try clear hk); (try clear hi)) | ((with_reducible refine gate_callee (f := 59) rfl ?_); refine goesL_ (some 52) rfl rfl Tryd.func59 (by kernel_rfl) rfl #[.int .i64 t228] rfl (by (try simp only [List.map_toArray, List.map_cons, List.map_nil]); first | done | rfl | (simp only [List.length_drop, List.length_take]; rfl)) ?_; (with_reducible refine (insn_Slots.calls t228 t231 _ A17.out (G_at hG (by repeat (first | (with_reducible first | exact HB.out | apply below_alloc | apply pw_below_drewN | apply below_drew1 | refine below_set ?_ GE218.out) | exact HB.out)))).mono ?_); rintro e w135 ⟨rfl, hb⟩; refine ⟨_, rfl, ?_⟩; have n0_ := Aside0.mk (blk_below (g := gb218) (o := .cells #[.int .i64 0, .bool false, .int .i64 0, .int .i64 0, .int .i64 0, .int .i64 0] 23 (0, 0)) (by (with_reducible repeat (first | refine blk_drewN ?_ _ | refine blk_drew ?_ | refine blk_alloc ?_ _)); exact BK218.out) hb); have n1_ := Aside0.mk (below_step (by repeat (first | (with_reducible first | exact HB.out | apply below_alloc | apply pw_below_drewN | apply below_drew1 | refine below_set ?_ GE218.out) | exact HB.out)) hb); clear BK218; clear HB; have BK218 := n0_; have HB := n1_; clear n0_ n1_; (try clear hb); (try clear hb2); (try clear hk); (try clear hi)) | ((with_reducible refine gate_callee (f := 44) rfl ?_); refine goesL_ (some 66) rfl rfl Tryd.func44 (by kernel_rfl) rfl #[.int .i64 t228] rfl (by (try simp only [List.map_toArray, List.map_cons, List.map_nil]); first | done | rfl | (simp only [List.length_drop, List.length_take]; rfl)) ?_; (with_reducible refine (ops_Fixed.calls t228 t232 t233 t234 _ A45.out (G_at hG (by repeat (first | (with_reducible first | exact HB.out | apply below_alloc | apply pw_below_drewN | apply below_drew1 | refine below_set ?_ GE218.out) | exact HB.out)))).mono ?_); rintro e w136 ⟨rfl, hb⟩; refine ⟨_, rfl, ?_⟩; have n0_ := Aside0.mk (blk_below (g := gb218) (o := .cells #[.int .i64 0, .bool false, .int .i64 0, .int .i64 0, .int .i64 0, .int .i64 0] 23 (0, 0)) (by (with_reducible repeat (first | refine blk_drewN ?_ _ | refine blk_drew ?_ | refine blk_alloc ?_ _)); exact BK218.out) hb); have n1_ := Aside0.mk (below_step (by repeat (first | (with_reducible first | exact HB.out | apply below_alloc | apply pw_below_drewN | apply below_drew1 | refine below_set ?_ GE218.out) | exact HB.out)) hb); clear BK218; clear HB; have BK218 := n0_; have HB := n1_; clear n0_ n1_; (try clear hb); (try clear hb2); (try clear hk); (try clear hi); have hcz137_0 : w136.cell? ⟨gb218, 0, none⟩ = some (.int .i64 0) := (blk_cell BK218.out 0).trans rfl; have hcz137_1 : w136.cell? ⟨gb218, 1, none⟩ = some (.bool false) := (blk_cell BK218.out 1).trans rfl; have hcz137_2 : w136.cell? ⟨gb218, 2, none⟩ = some (.int .i64 0) := (blk_cell BK218.out 2).trans rfl; have hcz137_3 : w136.cell? ⟨gb218, 3, none⟩ = some (.int .i64 0) := (blk_cell BK218.out 3).trans rfl; have hcz137_4 : w136.cell? ⟨gb218, 4, none⟩ = some (.int .i64 0) := (blk_cell BK218.out 4).trans rfl; have hcz137_5 : w136.cell? ⟨gb218, 5, none⟩ = some (.int .i64 0) := (blk_cell BK218.out 5).trans rfl; have hfz137_0 := blk_frozen BK218.out 0; have hfz137_1 := blk_frozen BK218.out 1; have hfz137_2 := blk_frozen BK218.out 2; have hfz137_3 := blk_frozen BK218.out 3; have hfz137_4 := blk_frozen BK218.out 4; have hfz137_5 := blk_frozen BK218.out 5) | ((with_reducible refine gate_callee (f := 55) rfl ?_); refine goesL_ (some 101) rfl rfl Tryd.func55 (by kernel_rfl) rfl #[.agg #[.int .i64 t228, .bool t229, .int .i64 (wrap64 (Go.bits .and .u8 (rd l0 1) 15)), .int .i64 (wrap64 ((wrap64 ((rd l0 1) / 16)) - t232)), .int .i64 (wrap64 (t223 - t233)), .int .i64 (wrap64 (t226 - t234))]] rfl (by (try simp only [List.map_toArray, List.map_cons, List.map_nil]); first | done | rfl | (simp only [List.length_drop, List.length_take]; rfl)) ?_; (with_reducible refine (insn_Check.calls t228 t229 (wrap64 (Go.bits .and .u8 (rd l0 1) 15)) (wrap64 ((wrap64 ((rd l0 1) / 16)) - t232)) (wrap64 (t223 - t233)) (wrap64 (t226 - t234)) t242 _ A123.out (G_at hG (by repeat (first | (with_reducible first | exact HB.out | apply below_alloc | apply pw_below_drewN | apply below_drew1 | refine below_set ?_ GE218.out) | exact HB.out)))).mono ?_); rintro e w138 ⟨rfl, hb⟩; refine ⟨_, rfl, ?_⟩; have n0_ := Aside0.mk (blk_below (g := gb218) (o := .cells #[.int .i64 t228, .bool t229, .int .i64 (wrap64 (Go.bits .and .u8 (rd l0 1) 15)), .int .i64 (wrap64 ((wrap64 ((rd l0 1) / 16)) - t232)), .int .i64 (wrap64 (t223 - t233)), .int .i64 (wrap64 (t226 - t234))] 23 (0, 0)) (by (with_reducible repeat (first | refine blk_drewN ?_ _ | refine blk_drew ?_ | refine blk_alloc ?_ _)); refine blk_put (cs := #[.int .i64 t228, .bool t229, .int .i64 (wrap64 (Go.bits .and .u8 (rd l0 1) 15)), .int .i64 (wrap64 ((wrap64 ((rd l0 1) / 16)) - t232)), .int .i64 (wrap64 (t223 - t233)), .int .i64 0]) ?_ 5 _ rfl; (with_reducible repeat (first | refine blk_drewN ?_ _ | refine blk_drew ?_ | refine blk_alloc ?_ _)); refine blk_put (cs := #[.int .i64 t228, .bool t229, .int .i64 (wrap64 (Go.bits .and .u8 (rd l0 1) 15)), .int .i64 (wrap64 ((wrap64 ((rd l0 1) / 16)) - t232)), .int .i64 0, .int .i64 0]) ?_ 4 _ rfl; (with_reducible repeat (first | refine blk_drewN ?_ _ | refine blk_drew ?_ | refine blk_alloc ?_ _)); refine blk_put (cs := #[.int .i64 t228, .bool t229, .int .i64 (wrap64 (Go.bits .and .u8 (rd l0 1) 15)), .int .i64 0, .int .i64 0, .int .i64 0]) ?_ 3 _ rfl; (with_reducible repeat (first | refine blk_drewN ?_ _ | refine blk_drew ?_ | refine blk_alloc ?_ _)); refine blk_put (cs := #[.int .i64 t228, .bool t229, .int .i64 0, .int .i64 0, .int .i64 0, .int .i64 0]) ?_ 2 _ rfl; (with_reducible repeat (first | refine blk_drewN ?_ _ | refine blk_drew ?_ | refine blk_alloc ?_ _)); refine blk_put (cs := #[.int .i64 t228, .bool false, .int .i64 0, .int .i64 0, .int .i64 0, .int .i64 0]) ?_ 1 _ rfl; (with_reducible repeat (first | refine blk_drewN ?_ _ | refine blk_drew ?_ | refine blk_alloc ?_ _)); refine blk_put (cs := #[.int .i64 0, .bool false, .int .i64 0, .int .i64 0, .int .i64 0, .int .i64 0]) ?_ 0 _ rfl; (with_reducible repeat (first | refine blk_drewN ?_ _ | refine blk_drew ?_ | refine blk_alloc ?_ _)); exact BK218.out) hb); have n1_ := Aside0.mk (below_step (by repeat (first | (with_reducible first | exact HB.out | apply below_alloc | apply pw_below_drewN | apply below_drew1 | refine below_set ?_ GE218.out) | exact HB.out)) hb); clear BK218; clear HB; have BK218 := n0_; have HB := n1_; clear n0_ n1_; (try clear hb); (try clear hb2); (try clear hk); (try clear hi); have hcz139_0 : w138.cell? ⟨gb218, 0, none⟩ = some (.int .i64 t228) := (blk_cell BK218.out 0).trans rfl; have hcz139_1 : w138.cell? ⟨gb218, 1, none⟩ = some (.bool t229) := (blk_cell BK218.out 1).trans rfl; have hcz139_2 : w138.cell? ⟨gb218, 2, none⟩ = some (.int .i64 (wrap64 (Go.bits .and .u8 (rd l0 1) 15))) := (blk_cell BK218.out 2).trans rfl; have hcz139_3 : w138.cell? ⟨gb218, 3, none⟩ = some (.int .i64 (wrap64 ((wrap64 ((rd l0 1) / 16)) - t232))) := (blk_cell BK218.out 3).trans rfl; have hcz139_4 : w138.cell? ⟨gb218, 4, none⟩ = some (.int .i64 (wrap64 (t223 - t233))) := (blk_cell BK218.out 4).trans rfl; have hcz139_5 : w138.cell? ⟨gb218, 5, none⟩ = some (.int .i64 (wrap64 (t226 - t234))) := (blk_cell BK218.out 5).trans rfl; have hfz139_0 := blk_frozen BK218.out 0; have hfz139_1 := blk_frozen BK218.out 1; have hfz139_2 := blk_frozen BK218.out 2; have hfz139_3 := blk_frozen BK218.out 3; have hfz139_4 := blk_frozen BK218.out 4; have hfz139_5 := blk_frozen BK218.out 5))
                          refine bodyPost_ret (results_ctt rfl _ _ gb218 23 #[.int .i64 t228, .bool t229, .int .i64 (wrap64 (Go.bits .and .u8 (rd l0 1) 15)), .int .i64 (wrap64 ((wrap64 ((rd l0 1) / 16)) - t232)), .int .i64 (wrap64 (t223 - t233)), .int .i64 (wrap64 (t226 - t234))] (0, 0) _ rfl (by (with_reducible repeat (first | refine blk_drewN ?_ _ | refine blk_drew ?_ | refine blk_alloc ?_ _)); refine blk_put (cs := #[.int .i64 t228, .bool t229, .int .i64 (wrap64 (Go.bits .and .u8 (rd l0 1) 15)), .int .i64 (wrap64 ((wrap64 ((rd l0 1) / 16)) - t232)), .int .i64 (wrap64 (t223 - t233)), .int .i64 (wrap64 (t226 - t234))]) ?_ 5 _ rfl; (with_reducible repeat (first | refine blk_drewN ?_ _ | refine blk_drew ?_ | refine blk_alloc ?_ _)); refine blk_put (cs := #[.int .i64 t228, .bool t229, .int .i64 (wrap64 (Go.bits .and .u8 (rd l0 1) 15)), .int .i64 (wrap64 ((wrap64 ((rd l0 1) / 16)) - t232)), .int .i64 (wrap64 (t223 - t233)), .int .i64 (wrap64 (t226 - t234))]) ?_ 4 _ rfl; (with_reducible repeat (first | refine blk_drewN ?_ _ | refine blk_drew ?_ | refine blk_alloc ?_ _)); refine blk_put (cs := #[.int .i64 t228, .bool t229, .int .i64 (wrap64 (Go.bits .and .u8 (rd l0 1) 15)), .int .i64 (wrap64 ((wrap64 ((rd l0 1) / 16)) - t232)), .int .i64 (wrap64 (t223 - t233)), .int .i64 (wrap64 (t226 - t234))]) ?_ 3 _ rfl; (with_reducible repeat (first | refine blk_drewN ?_ _ | refine blk_drew ?_ | refine blk_alloc ?_ _)); refine blk_put (cs := #[.int .i64 t228, .bool t229, .int .i64 (wrap64 (Go.bits .and .u8 (rd l0 1) 15)), .int .i64 (wrap64 ((wrap64 ((rd l0 1) / 16)) - t232)), .int .i64 (wrap64 (t223 - t233)), .int .i64 (wrap64 (t226 - t234))]) ?_ 2 _ rfl; (with_reducible repeat (first | refine blk_drewN ?_ _ | refine blk_drew ?_ | refine blk_alloc ?_ _)); refine blk_put (cs := #[.int .i64 t228, .bool t229, .int .i64 (wrap64 (Go.bits .and .u8 (rd l0 1) 15)), .int .i64 (wrap64 ((wrap64 ((rd l0 1) / 16)) - t232)), .int .i64 (wrap64 (t223 - t233)), .int .i64 (wrap64 (t226 - t234))]) ?_ 1 _ rfl; (with_reducible repeat (first | refine blk_drewN ?_ _ | refine blk_drew ?_ | refine blk_alloc ?_ _)); refine blk_put (cs := #[.int .i64 t228, .bool t229, .int .i64 (wrap64 (Go.bits .and .u8 (rd l0 1) 15)), .int .i64 (wrap64 ((wrap64 ((rd l0 1) / 16)) - t232)), .int .i64 (wrap64 (t223 - t233)), .int .i64 (wrap64 (t226 - t234))]) ?_ 0 _ rfl; (with_reducible repeat (first | refine blk_drewN ?_ _ | refine blk_drew ?_ | refine blk_alloc ?_ _)); exact BK218.out) Tryd.underlying23 rfl (by kernel_rfl)) rfl ?_
                          exact ⟨by first | rfl | (simp [errW_none, errW_some] <;> rfl) | (simp only [← hji31]; first | rfl | (simp [errW_none, errW_some] <;> rfl)) | (simp [*, errW_none, errW_some] <;> rfl), by repeat (first | (with_reducible first | exact HB.out | apply below_alloc | apply pw_below_drewN | apply below_drew1 | refine below_set ?_ GE218.out) | exact HB.out)⟩
                        · rw [if_neg c124] at H
                          have c124b0 : (t242 == 0) = false := beq_eq_false_iff_ne.mpr c124
                          have c124b1 : (t242 != 0) = true := bne_iff_ne.mpr c124
                          simp only [Option.some.injEq, Prod.mk.injEq] at H
                          obtain ⟨rfl, rfl, rfl, rfl, rfl, rfl, rfl, rfl⟩ := H
                          have p227 : 0 ≤ (0 : Int) := (by omega)
                          have q227 : 0 < (l0.length : Int) := of_decide_eq_true (by first | (with_reducible assumption) | assumption)
                          obtain ⟨ad227, e227, hx227_0⟩ := Kd.at_int HR0.out 0 p227 q227
                          obtain rfl : ad219 = ad227 := (by injection e227)
                          have qi227 : (0 < l0.length) = True := eq_true (by omega)
                          (try rw [show ((0 : Int)).toNat = 0 from rfl] at hx227_0)
                          (try rw [Addr.add_zero'] at hx227_0)
                          replace hx227_0 := (HB.out.cell (World.block_lt_of_cell? w _ hx227_0)).trans hx227_0
                          replace p227 := eq_true p227
                          replace q227 := eq_true q227
                          try go_wp2_with (first | ((with_reducible refine gate_callee (f := 70) rfl ?_); refine goesL_ (some 44) rfl rfl Tryd.func70 (by kernel_rfl) rfl #[.int .u8 (rd l0 0), .int .i64 (wrap64 ((rd l0 1) / 16)), .int .i64 t223, .int .i64 t226] rfl (by (try simp only [List.map_toArray, List.map_cons, List.map_nil]); first | done | rfl | (simp only [List.length_drop, List.length_take]; rfl)) ?_; (with_reducible refine (ops_Identify.calls (rd l0 0) (wrap64 ((rd l0 1) / 16)) t223 t226 t228 t229 true _ A15.out (G_at hG (by repeat (first | (with_reducible first | exact HB.out | apply below_alloc | apply pw_below_drewN | apply below_drew1 | refine below_set ?_ GE218.out) | exact HB.out)))).mono ?_); rintro e w149 ⟨rfl, hb⟩; refine ⟨_, rfl, ?_⟩; have n0_ := Aside0.mk (blk_below (g := gb218) (o := .cells #[.int .i64 0, .bool false, .int .i64 0, .int .i64 0, .int .i64 0, .int .i64 0] 23 (0, 0)) (by (with_reducible repeat (first | refine blk_drewN ?_ _ | refine blk_drew ?_ | refine blk_alloc ?_ _)); exact BK218.out) hb); have n1_ := Aside0.mk (below_step (by repeat (first | (with_reducible first | exact HB.out | apply below_alloc | apply pw_below_drewN | apply below_drew1 | refine below_set ?_ GE218.out) | exact HB.out)) hb); clear BK218; clear HB; have BK218 := n0_; have HB := n1_; clear n0_ n1_; (try clear hb); (try clear hb2); (try clear hk); (try clear hi)) | ((with_reducible refine gate_callee (f := 59) rfl ?_); refine goesL_ (some 52) rfl rfl Tryd.func59 (by kernel_rfl) rfl #[.int .i64 t228] rfl (by (try simp only [List.map_toArray, List.map_cons, List.map_nil]); first | done | rfl | (simp only [List.length_drop, List.length_take]; rfl)) ?_; (with_reducible refine (insn_Slots.calls t228 t231 _ A17.out (G_at hG (by repeat (first | (with_reducible first | exact HB.out | apply below_alloc | apply pw_below_drewN | apply below_drew1 | refine below_set ?_ GE218.out) | exact HB.out)))).mono ?_); rintro e w150 ⟨rfl, hb⟩; refine ⟨_, rfl, ?_⟩; have n0_ := Aside0.mk (blk_below (g := gb218) (o := .cells #[.int .i64 0, .bool false, .int .i64 0, .int .i64 0, .int .i64 0, .int .i64 0] 23 (0, 0)) (by (with_reducible repeat (first | refine blk_drewN ?_ _ | refine blk_drew ?_ | refine blk_alloc ?_ _)); exact BK218.out) hb); have n1_ := Aside0.mk (below_step (by repeat (first | (with_reducible first | exact HB.out | apply below_alloc | apply pw_below_drewN | apply below_drew1 | refine below_set ?_ GE218.out) | exact HB.out)) hb); clear BK218; clear HB; have BK218 := n0_; have HB := n1_; clear n0_ n1_; (try clear hb); (try clear hb2); (try clear hk); (try clear hi)) | ((with_reducible refine gate_callee (f := 44) rfl ?_); refine goesL_ (some 66) rfl rfl Tryd.func44 (by kernel_rfl) rfl #[.int .i64 t228] rfl (by (try simp only [List.map_toArray, List.map_cons, List.map_nil]); first | done | rfl | (simp only [List.length_drop, List.length_take]; rfl)) ?_; (with_reducible refine (ops_Fixed.calls t228 t232 t233 t234 _ A45.out (G_at hG (by repeat (first | (with_reducible first | exact HB.out | apply below_alloc | apply pw_below_drewN | apply below_drew1 | refine below_set ?_ GE218.out) | exact HB.out)))).mono ?_); rintro e w151 ⟨rfl, hb⟩; refine ⟨_, rfl, ?_⟩; have n0_ := Aside0.mk (blk_below (g := gb218) (o := .cells #[.int .i64 0, .bool false, .int .i64 0, .int .i64 0, .int .i64 0, .int .i64 0] 23 (0, 0)) (by (with_reducible repeat (first | refine blk_drewN ?_ _ | refine blk_drew ?_ | refine blk_alloc ?_ _)); exact BK218.out) hb); have n1_ := Aside0.mk (below_step (by repeat (first | (with_reducible first | exact HB.out | apply below_alloc | apply pw_below_drewN | apply below_drew1 | refine below_set ?_ GE218.out) | exact HB.out)) hb); clear BK218; clear HB; have BK218 := n0_; have HB := n1_; clear n0_ n1_; (try clear hb); (try clear hb2); (try clear hk); (try clear hi); have hcz152_0 : w151.cell? ⟨gb218, 0, none⟩ = some (.int .i64 0) := (blk_cell BK218.out 0).trans rfl; have hcz152_1 : w151.cell? ⟨gb218, 1, none⟩ = some (.bool false) := (blk_cell BK218.out 1).trans rfl; have hcz152_2 : w151.cell? ⟨gb218, 2, none⟩ = some (.int .i64 0) := (blk_cell BK218.out 2).trans rfl; have hcz152_3 : w151.cell? ⟨gb218, 3, none⟩ = some (.int .i64 0) := (blk_cell BK218.out 3).trans rfl; have hcz152_4 : w151.cell? ⟨gb218, 4, none⟩ = some (.int .i64 0) := (blk_cell BK218.out 4).trans rfl; have hcz152_5 : w151.cell? ⟨gb218, 5, none⟩ = some (.int .i64 0) := (blk_cell BK218.out 5).trans rfl; have hfz152_0 := blk_frozen BK218.out 0; have hfz152_1 := blk_frozen BK218.out 1; have hfz152_2 := blk_frozen BK218.out 2; have hfz152_3 := blk_frozen BK218.out 3; have hfz152_4 := blk_frozen BK218.out 4; have hfz152_5 := blk_frozen BK218.out 5) | ((with_reducible refine gate_callee (f := 55) rfl ?_); refine goesL_ (some 101) rfl rfl Tryd.func55 (by kernel_rfl) rfl #[.agg #[.int .i64 t228, .bool t229, .int .i64 (wrap64 (Go.bits .and .u8 (rd l0 1) 15)), .int .i64 (wrap64 ((wrap64 ((rd l0 1) / 16)) - t232)), .int .i64 (wrap64 (t223 - t233)), .int .i64 (wrap64 (t226 - t234))]] rfl (by (try simp only [List.map_toArray, List.map_cons, List.map_nil]); first | done | rfl | (simp only [List.length_drop, List.length_take]; rfl)) ?_; (with_reducible refine (insn_Check.calls t228 t229 (wrap64 (Go.bits .and .u8 (rd l0 1) 15)) (wrap64 ((wrap64 ((rd l0 1) / 16)) - t232)) (wrap64 (t223 - t233)) (wrap64 (t226 - t234)) t242 _ A123.out (G_at hG (by repeat (first | (with_reducible first | exact HB.out | apply below_alloc | apply pw_below_drewN | apply below_drew1 | refine below_set ?_ GE218.out) | exact HB.out)))).mono ?_); rintro e w153 ⟨rfl, hb⟩; refine ⟨_, rfl, ?_⟩; have n0_ := Aside0.mk (blk_below (g := gb218) (o := .cells #[.int .i64 t228, .bool t229, .int .i64 (wrap64 (Go.bits .and .u8 (rd l0 1) 15)), .int .i64 (wrap64 ((wrap64 ((rd l0 1) / 16)) - t232)), .int .i64 (wrap64 (t223 - t233)), .int .i64 (wrap64 (t226 - t234))] 23 (0, 0)) (by (with_reducible repeat (first | refine blk_drewN ?_ _ | refine blk_drew ?_ | refine blk_alloc ?_ _)); refine blk_put (cs := #[.int .i64 t228, .bool t229, .int .i64 (wrap64 (Go.bits .and .u8 (rd l0 1) 15)), .int .i64 (wrap64 ((wrap64 ((rd l0 1) / 16)) - t232)), .int .i64 (wrap64 (t223 - t233)), .int .i64 0]) ?_ 5 _ rfl; (with_reducible repeat (first | refine blk_drewN ?_ _ | refine blk_drew ?_ | refine blk_alloc ?_ _)); refine blk_put (cs := #[.int .i64 t228, .bool t229, .int .i64 (wrap64 (Go.bits .and .u8 (rd l0 1) 15)), .int .i64 (wrap64 ((wrap64 ((rd l0 1) / 16)) - t232)), .int .i64 0, .int .i64 0]) ?_ 4 _ rfl; (with_reducible repeat (first | refine blk_drewN ?_ _ | refine blk_drew ?_ | refine blk_alloc ?_ _)); refine blk_put (cs := #[.int .i64 t228, .bool t229, .int .i64 (wrap64 (Go.bits .and .u8 (rd l0 1) 15)), .int .i64 0, .int .i64 0, .int .i64 0]) ?_ 3 _ rfl; (with_reducible repeat (first | refine blk_drewN ?_ _ | refine blk_drew ?_ | refine blk_alloc ?_ _)); refine blk_put (cs := #[.int .i64 t228, .bool t229, .int .i64 0, .int .i64 0, .int .i64 0, .int .i64 0]) ?_ 2 _ rfl; (with_reducible repeat (first | refine blk_drewN ?_ _ | refine blk_drew ?_ | refine blk_alloc ?_ _)); refine blk_put (cs := #[.int .i64 t228, .bool false, .int .i64 0, .int .i64 0, .int .i64 0, .int .i64 0]) ?_ 1 _ rfl; (with_reducible repeat (first | refine blk_drewN ?_ _ | refine blk_drew ?_ | refine blk_alloc ?_ _)); refine blk_put (cs := #[.int .i64 0, .bool false, .int .i64 0, .int .i64 0, .int .i64 0, .int .i64 0]) ?_ 0 _ rfl; (with_reducible repeat (first | refine blk_drewN ?_ _ | refine blk_drew ?_ | refine blk_alloc ?_ _)); exact BK218.out) hb); have n1_ := Aside0.mk (below_step (by repeat (first | (with_reducible first | exact HB.out | apply below_alloc | apply pw_below_drewN | apply below_drew1 | refine below_set ?_ GE218.out) | exact HB.out)) hb); clear BK218; clear HB; have BK218 := n0_; have HB := n1_; clear n0_ n1_; (try clear hb); (try clear hb2); (try clear hk); (try clear hi); have hcz154_0 : w153.cell? ⟨gb218, 0, none⟩ = some (.int .i64 t228) := (blk_cell BK218.out 0).trans rfl; have hcz154_1 : w153.cell? ⟨gb218, 1, none⟩ = some (.bool t229) := (blk_cell BK218.out 1).trans rfl; have hcz154_2 : w153.cell? ⟨gb218, 2, none⟩ = some (.int .i64 (wrap64 (Go.bits .and .u8 (rd l0 1) 15))) := (blk_cell BK218.out 2).trans rfl; have hcz154_3 : w153.cell? ⟨gb218, 3, none⟩ = some (.int .i64 (wrap64 ((wrap64 ((rd l0 1) / 16)) - t232))) := (blk_cell BK218.out 3).trans rfl; have hcz154_4 : w153.cell? ⟨gb218, 4, none⟩ = some (.int .i64 (wrap64 (t223 - t233))) := (blk_cell BK218.out 4).trans rfl; have hcz154_5 : w153.cell? ⟨gb218, 5, none⟩ = some (.int .i64 (wrap64 (t226 - t234))) := (blk_cell BK218.out 5).trans rfl; have hfz154_0 := blk_frozen BK218.out 0; have hfz154_1 := blk_frozen BK218.out 1; have hfz154_2 := blk_frozen BK218.out 2; have hfz154_3 := blk_frozen BK218.out 3; have hfz154_4 := blk_frozen BK218.out 4; have hfz154_5 := blk_frozen BK218.out 5))
                          refine bodyPost_ret (results_ctt rfl _ _ gb218 23 #[.int .i64 0, .bool false, .int .i64 0, .int .i64 0, .int .i64 0, .int .i64 0] (0, 0) _ rfl (by (with_reducible repeat (first | refine blk_drewN ?_ _ | refine blk_drew ?_ | refine blk_alloc ?_ _)); refine blk_put (cs := #[.int .i64 0, .bool false, .int .i64 0, .int .i64 0, .int .i64 0, .int .i64 (wrap64 (t226 - t234))]) ?_ 5 _ rfl; (with_reducible repeat (first | refine blk_drewN ?_ _ | refine blk_drew ?_ | refine blk_alloc ?_ _)); refine blk_put (cs := #[.int .i64 0, .bool false, .int .i64 0, .int .i64 0, .int .i64 (wrap64 (t223 - t233)), .int .i64 (wrap64 (t226 - t234))]) ?_ 4 _ rfl; (with_reducible repeat (first | refine blk_drewN ?_ _ | refine blk_drew ?_ | refine blk_alloc ?_ _)); refine blk_put (cs := #[.int .i64 0, .bool false, .int .i64 0, .int .i64 (wrap64 ((wrap64 ((rd l0 1) / 16)) - t232)), .int .i64 (wrap64 (t223 - t233)), .int .i64 (wrap64 (t226 - t234))]) ?_ 3 _ rfl; (with_reducible repeat (first | refine blk_drewN ?_ _ | refine blk_drew ?_ | refine blk_alloc ?_ _)); refine blk_put (cs := #[.int .i64 0, .bool false, .int .i64 (wrap64 (Go.bits .and .u8 (rd l0 1) 15)), .int .i64 (wrap64 ((wrap64 ((rd l0 1) / 16)) - t232)), .int .i64 (wrap64 (t223 - t233)), .int .i64 (wrap64 (t226 - t234))]) ?_ 2 _ rfl; (with_reducible repeat (first | refine blk_drewN ?_ _ | refine blk_drew ?_ | refine blk_alloc ?_ _)); refine blk_put (cs := #[.int .i64 0, .bool t229, .int .i64 (wrap64 (Go.bits .and .u8 (rd l0 1) 15)), .int .i64 (wrap64 ((wrap64 ((rd l0 1) / 16)) - t232)), .int .i64 (wrap64 (t223 - t233)), .int .i64 (wrap64 (t226 - t234))]) ?_ 1 _ rfl; (with_reducible repeat (first | refine blk_drewN ?_ _ | refine blk_drew ?_ | refine blk_alloc ?_ _)); refine blk_put (cs := #[.int .i64 t228, .bool t229, .int .i64 (wrap64 (Go.bits .and .u8 (rd l0 1) 15)), .int .i64 (wrap64 ((wrap64 ((rd l0 1) / 16)) - t232)), .int .i64 (wrap64 (t223 - t233)), .int .i64 (wrap64 (t226 - t234))]) ?_ 0 _ rfl; (with_reducible repeat (first | refine blk_drewN ?_ _ | refine blk_drew ?_ | refine blk_alloc ?_ _)); exact BK218.out) Tryd.underlying23 rfl (by kernel_rfl)) rfl ?_
                          exact ⟨by first | rfl | (simp [errW_none, errW_some] <;> rfl) | (simp only [← hji31]; first | rfl | (simp [errW_none, errW_some] <;> rfl)) | (simp [*, errW_none, errW_some] <;> rfl), by repeat (first | (with_reducible first | exact HB.out | apply below_alloc | apply pw_below_drewN | apply below_drew1 | refine below_set ?_ GE218.out) | exact HB.out)⟩
                · replace c16 := Bool.eq_false_iff.mpr c16
                  subst c16
                  have H1 : (some (0, false, 0, 0, 0, 0, 0, 6)) = some (r1, r2, r3, r4, r5, r6, r7, r8) := by rw [if_neg (show ¬ (false = true) by decide)] at H; exact H
                  clear H
                  have H := H1
                  clear H1
                  simp only [Option.some.injEq, Prod.mk.injEq] at H
                  obtain ⟨rfl, rfl, rfl, rfl, rfl, rfl, rfl, rfl⟩ := H
                  have p227 : 0 ≤ (0 : Int) := (by omega)
                  have q227 : 0 < (l0.length : Int) := of_decide_eq_true (by first | (with_reducible assumption) | assumption)
                  obtain ⟨ad227, e227, hx227_0⟩ := Kd.at_int HR0.out 0 p227 q227
                  obtain rfl : ad219 = ad227 := (by injection e227)
                  have qi227 : (0 < l0.length) = True := eq_true (by omega)
                  (try rw [show ((0 : Int)).toNat = 0 from rfl] at hx227_0)
                  (try rw [Addr.add_zero'] at hx227_0)
                  replace hx227_0 := (HB.out.cell (World.block_lt_of_cell? w _ hx227_0)).trans hx227_0
                  replace p227 := eq_true p227
                  replace q227 := eq_true q227
                  try go_wp2_with (first | ((with_reducible refine gate_callee (f := 70) rfl ?_); refine goesL_ (some 44) rfl rfl Tryd.func70 (by kernel_rfl) rfl #[.int .u8 (rd l0 0), .int .i64 (wrap64 ((rd l0 1) / 16)), .int .i64 t223, .int .i64 t226] rfl (by (try simp only [List.map_toArray, List.map_cons, List.map_nil]); first | done | rfl | (simp only [List.length_drop, List.length_take]; rfl)) ?_; (with_reducible refine (ops_Identify.calls (rd l0 0) (wrap64 ((rd l0 1) / 16)) t223 t226 t228 t229 false _ A15.out (G_at hG (by repeat (first | (with_reducible first | exact HB.out | apply below_alloc | apply pw_below_drewN | apply below_drew1 | refine below_set ?_ GE218.out) | exact HB.out)))).mono ?_); rintro e w164 ⟨rfl, hb⟩; refine ⟨_, rfl, ?_⟩; have n0_ := Aside0.mk (blk_below (g := gb218) (o := .cells #[.int .i64 0, .bool false, .int .i64 0, .int .i64 0, .int .i64 0, .int .i64 0] 23 (0, 0)) (by (with_reducible repeat (first | refine blk_drewN ?_ _ | refine blk_drew ?_ | refine blk_alloc ?_ _)); exact BK218.out) hb); have n1_ := Aside0.mk (below_step (by repeat (first | (with_reducible first | exact HB.out | apply below_alloc | apply pw_below_drewN | apply below_drew1 | refine below_set ?_ GE218.out) | exact HB.out)) hb); clear BK218; clear HB; have BK218 := n0_; have HB := n1_; clear n0_ n1_; (try clear hb); (try clear hb2); (try clear hk); (try clear hi); have hcz165_0 : w164.cell? ⟨gb218, 0, none⟩ = some (.int .i64 0) := (blk_cell BK218.out 0).trans rfl; have hcz165_1 : w164.cell? ⟨gb218, 1, none⟩ = some (.bool false) := (blk_cell BK218.out 1).trans rfl; have hcz165_2 : w164.cell? ⟨gb218, 2, none⟩ = some (.int .i64 0) := (blk_cell BK218.out 2).trans rfl; have hcz165_3 : w164.cell? ⟨gb218, 3, none⟩ = some (.int .i64 0) := (blk_cell BK218.out 3).trans rfl; have hcz165_4 : w164.cell? ⟨gb218, 4, none⟩ = some (.int .i64 0) := (blk_cell BK218.out 4).trans rfl; have hcz165_5 : w164.cell? ⟨gb218, 5, none⟩ = some (.int .i64 0) := (blk_cell BK218.out 5).trans rfl; have hfz165_0 := blk_frozen BK218.out 0; have hfz165_1 := blk_frozen BK218.out 1; have hfz165_2 := blk_frozen BK218.out 2; have hfz165_3 := blk_frozen BK218.out 3; have hfz165_4 := blk_frozen BK218.out 4; have hfz165_5 := blk_frozen BK218.out 5))
                  refine bodyPost_ret (results_ctt rfl _ _ gb218 23 #[.int .i64 0, .bool false, .int .i64 0, .int .i64 0, .int .i64 0, .int .i64 0] (0, 0) _ rfl (by (with_reducible repeat (first | refine blk_drewN ?_ _ | refine blk_drew ?_ | refine blk_alloc ?_ _)); refine blk_put (cs := #[.int .i64 0, .bool false, .int .i64 0, .int .i64 0, .int .i64 0, .int .i64 0]) ?_ 5 _ rfl; (with_reducible repeat (first | refine blk_drewN ?_ _ | refine blk_drew ?_ | refine blk_alloc ?_ _)); refine blk_put (cs := #[.int .i64 0, .bool false, .int .i64 0, .int .i64 0, .int .i64 0, .int .i64 0]) ?_ 4 _ rfl; (with_reducible repeat (first | refine blk_drewN ?_ _ | refine blk_drew ?_ | refine blk_alloc ?_ _)); refine blk_put (cs := #[.int .i64 0, .bool false, .int .i64 0, .int .i64 0, .int .i64 0, .int .i64 0]) ?_ 3 _ rfl; (with_reducible repeat (first | refine blk_drewN ?_ _ | refine blk_drew ?_ | refine blk_alloc ?_ _)); refine blk_put (cs := #[.int .i64 0, .bool false, .int .i64 0, .int .i64 0, .int .i64 0, .int .i64 0]) ?_ 2 _ rfl; (with_reducible repeat (first | refine blk_drewN ?_ _ | refine blk_drew ?_ | refine blk_alloc ?_ _)); refine blk_put (cs := #[.int .i64 0, .bool false, .int .i64 0, .int .i64 0, .int .i64 0, .int .i64 0]) ?_ 1 _ rfl; (with_reducible repeat (first | refine blk_drewN ?_ _ | refine blk_drew ?_ | refine blk_alloc ?_ _)); refine blk_put (cs := #[.int .i64 0, .bool false, .int .i64 0, .int .i64 0, .int .i64 0, .int .i64 0]) ?_ 0 _ rfl; (with_reducible repeat (first | refine blk_drewN ?_ _ | refine blk_drew ?_ | refine blk_alloc ?_ _)); exact BK218.out) Tryd.underlying23 rfl (by kernel_rfl)) rfl ?_
                  exact ⟨by first | rfl | (simp [errW_none, errW_some] <;> rfl) | (simp [*, errW_none, errW_some] <;> rfl), by repeat (first | (with_reducible first | exact HB.out | apply below_alloc | apply pw_below_drewN | apply below_drew1 | refine below_set ?_ GE218.out) | exact HB.out)⟩
              · rw [if_neg c14] at H
                exact absurd H (by simp)
            · rw [if_neg c11] at H
              exact absurd H (by simp)
          · rw [if_neg c10] at H
            exact absurd H (by simp)
        · rw [if_neg c7] at H
          exact absurd H (by simp)
      · rw [if_neg c6] at H
        exact absurd H (by simp)
    · rw [if_neg c5] at H
      exact absurd H (by simp)

end Go.Proofs.YtnllfppkfdnjpabDoor.Q
