-- PRINTED by print.py (a twelfth state) out of the translation. Not trusted: Lean checks it.
import Derived.Test.YtnllfppkfdnjpabDoorKx0
import Derived.Test.YtnllfppkfdnjpabDoorKx12
namespace Go.Proofs.YtnllfppkfdnjpabDoor.Q
open Go.RowKit Go.Proofs.YtnllfppkfdnjpabDoorW.PrintWords Go.Proofs.YtnllfppkfdnjpabDoorW.PrintLast Go.Proofs.YtnllfppkfdnjpabDoorW.PrintMore
attribute [local go_sem] max2_int min2_int max_two min_two max_three min_three max_four min_four   -- for this text's walks alone
set_option linter.unusedVariables false
set_option linter.unusedSimpArgs false

/-! ### slotcoderef05_All: function 36 -/
def slotcoderef05_All.l0 : Nat → List Int → List (S23) → Int → Option ((List (S23)) × Int × Int)
  | 0, _, _, _ => none
  | k + 1, x0, x5, x6 => if (wrap64 (8 * x6)) < (x0.length : Int) then (if 0 ≤ (wrap64 (8 * x6)) then (if (wrap64 (8 * x6)) ≤ (x0.length : Int) then ((slotcoderef05_Decode.f k (x0.drop ((wrap64 (8 * x6)) : Int).toNat)).bind fun bt286 => (if bt286.2.2.2.2.2.2.2 = 0 then (if x5.length < 2932031007402 then (slotcoderef05_All.l0 k x0 (x5 ++ [(⟨bt286.1, bt286.2.1, bt286.2.2.1, bt286.2.2.2.1, bt286.2.2.2.2.1, bt286.2.2.2.2.2.1⟩ : S23)]) (wrap64 (x6 + bt286.2.2.2.2.2.2.1))) else (none)) else (some (([] : List (S23)), x6, bt286.2.2.2.2.2.2.2)))) else (none)) else (none)) else (some (x5, 0, 0))
def slotcoderef05_All.f (k : Nat) (l0 : List Int) : Option ((List (S23)) × Int × Int) := slotcoderef05_All.l0 k l0 ([] : List (S23)) 0
theorem slotcoderef05_All.mono_l : ∀ k, (∀ y0 y1 y2, LeO (slotcoderef05_All.l0 k y0 y1 y2) (slotcoderef05_All.l0 (k + 1) y0 y1 y2))
  | 0 => fun _ _ _ r h => by simp [slotcoderef05_All.l0] at h
  | k + 1 => by
    have ih0 := slotcoderef05_All.mono_l k
    · intro y0 y1 y2
      unfold slotcoderef05_All.l0
      repeat' first
      | (with_reducible exact ih0 _ _ _)
      | (with_reducible exact slotcoderef05_Decode.mono _ _)
      | (with_reducible exact LeO.refl _)
      | (with_reducible exact LeO.none _)
      | (with_reducible refine LeO.ite ?_ ?_)
      | (with_reducible refine LeO.bind ?_ (fun _ => ?_))
      | exact ih0 _ _ _
      | exact slotcoderef05_Decode.mono _ _
      | exact LeO.none _
      | refine LeO.ite ?_ ?_
      | refine LeO.bind ?_ (fun _ => ?_)
theorem slotcoderef05_All.mono : ∀ a0 k, LeO (slotcoderef05_All.f k a0) (slotcoderef05_All.f (k + 1) a0) := by
  intro a0 k
  have ih0 := slotcoderef05_All.mono_l k
  unfold slotcoderef05_All.f
  repeat' first
      | (with_reducible exact ih0 _ _ _)
      | (with_reducible exact slotcoderef05_Decode.mono _ _)
      | (with_reducible exact LeO.refl _)
      | (with_reducible exact LeO.none _)
      | (with_reducible refine LeO.ite ?_ ?_)
      | (with_reducible refine LeO.bind ?_ (fun _ => ?_))
      | exact ih0 _ _ _
      | exact slotcoderef05_Decode.mono _ _
      | exact LeO.none _
      | refine LeO.ite ?_ ?_
      | refine LeO.bind ?_ (fun _ => ?_)
set_option maxHeartbeats 8000000 in
set_option maxRecDepth 100000 in
theorem slotcoderef05_All.calls (k : Nat) (A0 : Option Addr) (c0 : Nat) (l0 : List Int) (r1 : List (S23)) (r2 : Int) (r3 : Int) (w : World) (hr0 : Kd.C (Kd.int .u8) w A0 l0.length l0) (hc0 : l0.length ≤ c0) (h : slotcoderef05_All.f k l0 = some (r1, r2, r3)) :
    Calls Tryd.prog 36 #[.slice A0 l0.length c0] w fun e w' => ∃ v0_ : Value, e = .returned (.tuple #[v0_, .int .i64 r2, .int .i64 r3]) ∧ Kd.R k23 23 w' w.heap.size (fun _ => True) v0_ r1 ∧ Below w.heap.size w w' := by
  have hu23 := Tryd.underlying23
  have HR0 := Aside0.mk hr0
  have HC0 := Aside0.mk hc0
  clear hr0 hc0
  have HB := Aside0.mk (Below.refl w.heap.size w)
  have H : (slotcoderef05_All.l0 k l0 ([] : List (S23)) 0) = some (r1, r2, r3) := h
  clear h
  have H' := Aside0.mk H
  clear H
  go_enter Tryd.func36, Tryd.ntmps36
  go_wp2
  go_loopg [5, 6] k (fun kq v5 v6 w' => ∃ (x5_1 : List (S23)) (x6_1 : Int), v6 = .int .i64 x6_1 ∧ Aside0 (slotcoderef05_All.l0 kq l0 x5_1 x6_1 = some (r1, r2, r3)) ∧ Aside0 (kq ≤ k) ∧ Aside0 (Kd.R k23 23 w' w.heap.size (fun _ => True) v5 x5_1) ∧ Aside0 (Below w.heap.size w w'))
  case atStart => exact ⟨(([] : List (S23))), (0), (by first | rfl | (simp; done) | (simp [*]; done)), H', ⟨Nat.le_refl _⟩, ⟨by first | exact Kd.R_nil _ _ _ _ _ | exact Kd.N_nil _ _ _ _ _ | exact Kd.V_nil _ _ _ _ _ | exact Kd.Q_nil _ _ _ _ _ | exact Kd.S_nil _ _ _ _ _⟩, ⟨by repeat (first | (with_reducible first | exact HB.out | apply below_alloc | apply pw_below_drewN | apply below_drew1) | exact HB.out)⟩⟩
  case round =>
    clear H'
    obtain ⟨x5_1, x6_1, rfl, HA, HK1, HO_5, HB⟩ := hrel
    cases gk with
    | zero => exact absurd HA.out (by simp [slotcoderef05_All.l0])
    | succ k1 =>
      have H := HA.out
      clear HA
      simp only [slotcoderef05_All.l0] at H
      by_cases c2 : (wrap64 (8 * x6_1)) < (l0.length : Int)
      · rw [if_pos c2] at H
        have c2b0 : decide ((wrap64 (8 * x6_1)) < (l0.length : Int)) = true := decide_eq_true c2
        clear c2
        obtain ⟨ji3, hji3⟩ : ∃ j_ : Int, (wrap64 (8 * x6_1)) = j_ := ⟨_, rfl⟩
        replace H : (if 0 ≤ (ji3) then (if (ji3) ≤ (l0.length : Int) then ((slotcoderef05_Decode.f k1 (l0.drop ((ji3) : Int).toNat)).bind fun bt286 => (if bt286.2.2.2.2.2.2.2 = 0 then (if x5_1.length < 2932031007402 then (slotcoderef05_All.l0 k1 l0 (x5_1 ++ [(⟨bt286.1, bt286.2.1, bt286.2.2.1, bt286.2.2.2.1, bt286.2.2.2.2.1, bt286.2.2.2.2.2.1⟩ : S23)]) (wrap64 (x6_1 + bt286.2.2.2.2.2.2.1))) else (none)) else (some (([] : List (S23)), x6_1, bt286.2.2.2.2.2.2.2)))) else (none)) else (none)) = some (r1, r2, r3) := by first | (rw [hji3] at H; exact H) | (simp only [hji3] at H ⊢; exact H)
        (try rw [hji3] at c2b0)
        have hji3w : (IntKind.i64.wrap (8 * x6_1)) = ji3 := (i64_w _).trans hji3
        by_cases c4 : 0 ≤ (ji3)
        · rw [if_pos c4] at H
          have c4b0 := eq_true c4
          have c4b1 : decide (0 ≤ (ji3)) = true := decide_eq_true c4
          clear c4
          by_cases c5 : (ji3) ≤ (l0.length : Int)
          · rw [if_pos c5] at H
            have c5b0 := eq_true c5
            have c5b1 : decide ((ji3) ≤ (l0.length : Int)) = true := decide_eq_true c5
            clear c5
            replace H := Option.bind_eq_some_iff.mp H
            obtain ⟨⟨t286, t287, t288, t289, t290, t291, t292, t293⟩, A60, H⟩ := H
            replace H : (if t293 = 0 then (if x5_1.length < 2932031007402 then (slotcoderef05_All.l0 k1 l0 (x5_1 ++ [(⟨t286, t287, t288, t289, t290, t291⟩ : S23)]) (wrap64 (x6_1 + t292))) else (none)) else (some (([] : List (S23)), x6_1, t293))) = some (r1, r2, r3) := H
            have A6 := Aside0.mk A60
            clear A60
            by_cases c7 : t293 = 0
            · rw [if_pos c7] at H
              have c7b0 : (t293 == 0) = true := beq_iff_eq.mpr c7
              have c7b1 : (t293 != 0) = false := bne_eq_false_iff_eq.mpr c7
              clear c7
              by_cases c8 : x5_1.length < 2932031007402
              · rw [if_pos c8] at H
                have LMc8 := Aside0.mk c8
                clear c8
                obtain ⟨y295, hy295⟩ : ∃ y_ : List (S23), y_ = (x5_1 ++ [(⟨t286, t287, t288, t289, t290, t291⟩ : S23)]) := ⟨_, rfl⟩
                replace H : (slotcoderef05_All.l0 k1 l0 y295 (wrap64 (x6_1 + t292))) = some (r1, r2, r3) := by first | (rw [hy295]; with_reducible exact H) | (have H2_ := (Option.bind_some _ _).symm.trans H; rw [hy295]; with_reducible exact H2_) | (have H2_ := (Option.bind_some _ _).symm.trans H; with_reducible exact H2_) | with_reducible exact H | (rw [hy295]; exact H) | exact H
                have Ny295 := Aside0.mk hy295
                clear hy295
                have H' := Aside0.mk H
                clear H
                obtain ⟨i09, hi09, _, hsz9, _⟩ := info_parts info5
                obtain ⟨A9, hcut9, hA9, hC9⟩ := print_drop_of (P := Tryd.prog) (Value.int .u8) 0 44 5 .i64 Tryd.underlying44 hi09 hsz9 A0 c0 l0 (ji3) (of_decide_eq_true (by first | (with_reducible assumption) | assumption)) (of_decide_eq_true (by first | (with_reducible assumption) | assumption)) HC0.out
                have HR285 := Aside0.mk (Kd.C_of_reads (h1 := fun _ => rfl) (hA9 _ (Kd.reads_of_C HR0.out)))
                have HC285 := Aside0.mk hC9
                clear hA9 hC9 hi09 hsz9
                go_wp2_with (first | ((with_reducible refine gate_callee (f := 33) rfl ?_); refine goesL_ (some 20) rfl rfl Tryd.func33 (by kernel_rfl) rfl #[.slice A9 (l0.drop ((ji3) : Int).toNat).length (c0 - (ji3).toNat)] rfl (by (try simp only [List.map_toArray, List.map_cons, List.map_nil]); first | done | (rw [show (l0.drop ((ji3) : Int).toNat).length = (l0.length - (ji3).toNat) from List.length_drop] <;> rfl) | (simp only [hji3]; rfl) | rfl | (simp only [List.length_drop, List.length_take]; rfl)) ?_; (with_reducible refine (slotcoderef05_Decode.calls k1 _ _ (l0.drop ((ji3) : Int).toNat) t286 t287 t288 t289 t290 t291 t292 t293 _ ?side1 ?side2 A6.out).mono ?_); (case side1 => repeat (first | exact (Kd.C_below HR285.out HB.out) | (with_reducible refine Kd.C_alloc ?_ _) | (with_reducible refine Kd.C_drewN ?_ _) | (with_reducible refine Kd.C_drew ?_))); (case side2 => exact HC285.out); rintro e w10 ⟨rfl, hb⟩; refine ⟨_, rfl, ?_⟩; have n0_ := Aside0.mk (Kd.R_below (by (with_reducible repeat (first | apply Kd.R_alloc | apply Kd.R_drewN | apply Kd.R_drew)); exact HO_5.out) hb); have n1_ := Aside0.mk (below_step (by repeat (first | (with_reducible first | exact HB.out | apply below_alloc | apply pw_below_drewN | apply below_drew1) | exact HB.out)) hb); clear HO_5; clear HB; have HO_5 := n0_; have HB := n1_; clear n0_ n1_; (try clear hb); (try clear hb2); (try clear hk); (try clear hi)) | ((with_reducible refine gate_dst (N := 7) rfl ?_); refine box_event ?hg (N := 7) ?hd (cs := #[.int .i64 0, .bool false, .int .i64 0, .int .i64 0, .int .i64 0, .int .i64 0]) (t := 23) ?hr ?_; (case hd => rfl); (case hg => rfl); (case hr => first | (go_simp; done) | (go_simp; rfl)); intro gb294 hg w11 hbox hb; have n0_ := Aside0.mk (Kd.R_below (Kd.R_elderB (by (with_reducible repeat (first | apply Kd.R_alloc | apply Kd.R_drewN | apply Kd.R_drew)); exact HO_5.out) gb294 (Nat.le_of_eq hg.symm)) hb); have n1_ := Aside0.mk (below_step (by repeat (first | (with_reducible first | exact HB.out | apply below_alloc | apply pw_below_drewN | apply below_drew1) | exact HB.out)) hb); have n2_ := Aside0.mk (hbox); have n3_ := Aside0.mk ((by rw [hg]; exact (below_size (by repeat (first | (with_reducible first | exact HB.out | apply below_alloc | apply pw_below_drewN | apply below_drew1) | exact HB.out))) : w.heap.size ≤ gb294)); have n4_ := Aside0.mk ((by rw [hg]; exact (below_size (by repeat (first | (with_reducible first | exact HB.out | apply below_alloc | apply pw_below_drewN | apply below_drew1) | exact HB.out))) : w.heap.size ≤ gb294)); clear HO_5; clear HB; have HO_5 := n0_; have HB := n1_; have BK294 := n2_; have GW294 := n3_; have GE294 := n4_; clear n0_ n1_ n2_ n3_ n4_; clear hb hbox hg; have hcz12_0 : w11.cell? ⟨gb294, 0, none⟩ = some (.int .i64 0) := (blk_cell BK294.out 0).trans rfl; have hcz12_1 : w11.cell? ⟨gb294, 1, none⟩ = some (.bool false) := (blk_cell BK294.out 1).trans rfl; have hcz12_2 : w11.cell? ⟨gb294, 2, none⟩ = some (.int .i64 0) := (blk_cell BK294.out 2).trans rfl; have hcz12_3 : w11.cell? ⟨gb294, 3, none⟩ = some (.int .i64 0) := (blk_cell BK294.out 3).trans rfl; have hcz12_4 : w11.cell? ⟨gb294, 4, none⟩ = some (.int .i64 0) := (blk_cell BK294.out 4).trans rfl; have hcz12_5 : w11.cell? ⟨gb294, 5, none⟩ = some (.int .i64 0) := (blk_cell BK294.out 5).trans rfl; have hfz12_0 := blk_frozen BK294.out 0; have hfz12_1 := blk_frozen BK294.out 1; have hfz12_2 := blk_frozen BK294.out 2; have hfz12_3 := blk_frozen BK294.out 3; have hfz12_4 := blk_frozen BK294.out 4; have hfz12_5 := blk_frozen BK294.out 5) | ((with_reducible refine gate_builtin (b := .append) (xs := #[.tmp 28, .tmp 30]) rfl ?_); at_builtin; refine Kd.R_append k23 (w0 := w) w.heap.size rfl (.tmp 28) (.tmp 30) 59 23 (.agg #[(.int .i64 0), (.bool false), (.int .i64 0), (.int .i64 0), (.int .i64 0), (.int .i64 0)]) 48 rfl Tryd.underlying59 info23 rfl (by decide) (by omega) u5 x5_1 (⟨t286, t287, t288, t289, t290, t291⟩ : S23) [.int .i64 t286, .bool t287, .int .i64 t288, .int .i64 t289, .int .i64 t290, .int .i64 t291] (fun k_ => k_ ≠ gb294) (fun _ => False) rfl (by first | (go_simp; done) | (go_simp; rfl)) ?aP (fun _ hk => hk.elim) ?aF ?aO ?aB ?aS ?aL ?_; (case aP => exact k23_mkM _ _ _ (⟨t286, t287, t288, t289, t290, t291⟩ : S23)); (case aB => exact (by repeat (first | (with_reducible first | exact HB.out | apply below_alloc | apply pw_below_drewN | apply below_drew1 | refine below_set ?_ GE294.out) | exact HB.out))); (case aF => exact (fun k_ hk => Kd.freshB (g := gb294) (o := .cells #[.int .i64 t286, .bool t287, .int .i64 t288, .int .i64 t289, .int .i64 t290, .int .i64 t291] 23 (0, 0)) (by (with_reducible repeat (first | refine blk_drewN ?_ _ | refine blk_drew ?_ | refine blk_alloc ?_ _)); refine blk_put (cs := #[.int .i64 t286, .bool t287, .int .i64 t288, .int .i64 t289, .int .i64 t290, .int .i64 0]) ?_ 5 _ rfl; (with_reducible repeat (first | refine blk_drewN ?_ _ | refine blk_drew ?_ | refine blk_alloc ?_ _)); refine blk_put (cs := #[.int .i64 t286, .bool t287, .int .i64 t288, .int .i64 t289, .int .i64 0, .int .i64 0]) ?_ 4 _ rfl; (with_reducible repeat (first | refine blk_drewN ?_ _ | refine blk_drew ?_ | refine blk_alloc ?_ _)); refine blk_put (cs := #[.int .i64 t286, .bool t287, .int .i64 t288, .int .i64 0, .int .i64 0, .int .i64 0]) ?_ 3 _ rfl; (with_reducible repeat (first | refine blk_drewN ?_ _ | refine blk_drew ?_ | refine blk_alloc ?_ _)); refine blk_put (cs := #[.int .i64 t286, .bool t287, .int .i64 0, .int .i64 0, .int .i64 0, .int .i64 0]) ?_ 2 _ rfl; (with_reducible repeat (first | refine blk_drewN ?_ _ | refine blk_drew ?_ | refine blk_alloc ?_ _)); refine blk_put (cs := #[.int .i64 t286, .bool false, .int .i64 0, .int .i64 0, .int .i64 0, .int .i64 0]) ?_ 1 _ rfl; (with_reducible repeat (first | refine blk_drewN ?_ _ | refine blk_drew ?_ | refine blk_alloc ?_ _)); refine blk_put (cs := #[.int .i64 0, .bool false, .int .i64 0, .int .i64 0, .int .i64 0, .int .i64 0]) ?_ 0 _ rfl; (with_reducible repeat (first | refine blk_drewN ?_ _ | refine blk_drew ?_ | refine blk_alloc ?_ _)); exact BK294.out) k_ hk)); (case aO => exact (by (with_reducible repeat (first | apply Kd.R_alloc | apply Kd.R_drewN | apply Kd.R_drew)); exact Kd.R_mono (Kd.R_far (p := ⟨gb294, 5, none⟩) (Kd.R_far (p := ⟨gb294, 4, none⟩) (Kd.R_far (p := ⟨gb294, 3, none⟩) (Kd.R_far (p := ⟨gb294, 2, none⟩) (Kd.R_far (p := ⟨gb294, 1, none⟩) (Kd.R_far (p := ⟨gb294, 0, none⟩) (Kd.R_mono HO_5.out (fun k_ hk => (⟨hk, hk.2⟩ : _ ∧ k_ ≠ gb294))) (fun _ hk => hk.2) (.int .i64 t286)) (fun _ hk => hk.2) (.bool t287)) (fun _ hk => hk.2) (.int .i64 t288)) (fun _ hk => hk.2) (.int .i64 t289)) (fun _ hk => hk.2) (.int .i64 t290)) (fun _ hk => hk.2) (.int .i64 t291)) (fun _ hk => hk.1.2))); (case aS => exact (below_size (by repeat (first | (with_reducible first | exact HB.out | apply below_alloc | apply pw_below_drewN | apply below_drew1 | refine below_set ?_ GE294.out) | exact HB.out)))); (case aL => have := LMc8.out; omega); intro v296 w13 ho hb hg hat; rw [← Ny295.out] at ho; have n0_ := Aside0.mk (blk_grown (g := gb294) (o := .cells #[.int .i64 t286, .bool t287, .int .i64 t288, .int .i64 t289, .int .i64 t290, .int .i64 t291] 23 (0, 0)) (by (with_reducible repeat (first | refine blk_drewN ?_ _ | refine blk_drew ?_ | refine blk_alloc ?_ _)); refine blk_put (cs := #[.int .i64 t286, .bool t287, .int .i64 t288, .int .i64 t289, .int .i64 t290, .int .i64 0]) ?_ 5 _ rfl; (with_reducible repeat (first | refine blk_drewN ?_ _ | refine blk_drew ?_ | refine blk_alloc ?_ _)); refine blk_put (cs := #[.int .i64 t286, .bool t287, .int .i64 t288, .int .i64 t289, .int .i64 0, .int .i64 0]) ?_ 4 _ rfl; (with_reducible repeat (first | refine blk_drewN ?_ _ | refine blk_drew ?_ | refine blk_alloc ?_ _)); refine blk_put (cs := #[.int .i64 t286, .bool t287, .int .i64 t288, .int .i64 0, .int .i64 0, .int .i64 0]) ?_ 3 _ rfl; (with_reducible repeat (first | refine blk_drewN ?_ _ | refine blk_drew ?_ | refine blk_alloc ?_ _)); refine blk_put (cs := #[.int .i64 t286, .bool t287, .int .i64 0, .int .i64 0, .int .i64 0, .int .i64 0]) ?_ 2 _ rfl; (with_reducible repeat (first | refine blk_drewN ?_ _ | refine blk_drew ?_ | refine blk_alloc ?_ _)); refine blk_put (cs := #[.int .i64 t286, .bool false, .int .i64 0, .int .i64 0, .int .i64 0, .int .i64 0]) ?_ 1 _ rfl; (with_reducible repeat (first | refine blk_drewN ?_ _ | refine blk_drew ?_ | refine blk_alloc ?_ _)); refine blk_put (cs := #[.int .i64 0, .bool false, .int .i64 0, .int .i64 0, .int .i64 0, .int .i64 0]) ?_ 0 _ rfl; (with_reducible repeat (first | refine blk_drewN ?_ _ | refine blk_drew ?_ | refine blk_alloc ?_ _)); exact BK294.out) hg (Kd.R_away HO_5.out (fun _ hk => hk.2))); have n1_ := Aside0.mk (hb); have n2_ := Aside0.mk (ho); clear BK294; clear HB; clear HO_5; have BK294 := n0_; have HB := n1_; have HO297 := n2_; clear n0_ n1_ n2_; clear ho hb hg hat))
                go_roundg k1
                case measure => have := HK1.out; omega
                case rel => exact ⟨(y295), (wrap64 (x6_1 + t292)), (by first | rfl | (simp; done) | (simp [*]; done)), H', ⟨by have := HK1.out; omega⟩, ⟨by (with_reducible repeat (first | apply Kd.R_alloc | apply Kd.R_drewN | apply Kd.R_drew)); exact Kd.R_mono HO297.out (fun _ hk => trivial)⟩, ⟨by repeat (first | (with_reducible first | exact HB.out | apply below_alloc | apply pw_below_drewN | apply below_drew1 | refine below_set ?_ GE294.out) | exact HB.out)⟩⟩
              · rw [if_neg c8] at H
                exact absurd H (by simp)
            · rw [if_neg c7] at H
              have c7b0 : (t293 == 0) = false := beq_eq_false_iff_ne.mpr c7
              have c7b1 : (t293 != 0) = true := bne_iff_ne.mpr c7
              simp only [Option.some.injEq, Prod.mk.injEq] at H
              obtain ⟨rfl, rfl, rfl⟩ := H
              obtain ⟨i014, hi014, _, hsz14, _⟩ := info_parts info5
              obtain ⟨A14, hcut14, hA14, hC14⟩ := print_drop_of (P := Tryd.prog) (Value.int .u8) 0 44 5 .i64 Tryd.underlying44 hi014 hsz14 A0 c0 l0 (ji3) (of_decide_eq_true (by first | (with_reducible assumption) | assumption)) (of_decide_eq_true (by first | (with_reducible assumption) | assumption)) HC0.out
              have HR285 := Aside0.mk (Kd.C_of_reads (h1 := fun _ => rfl) (hA14 _ (Kd.reads_of_C HR0.out)))
              have HC285 := Aside0.mk hC14
              clear hA14 hC14 hi014 hsz14
              go_wp2_with (first | ((with_reducible refine gate_callee (f := 33) rfl ?_); refine goesL_ (some 20) rfl rfl Tryd.func33 (by kernel_rfl) rfl #[.slice A14 (l0.drop ((ji3) : Int).toNat).length (c0 - (ji3).toNat)] rfl (by (try simp only [List.map_toArray, List.map_cons, List.map_nil]); first | done | (rw [show (l0.drop ((ji3) : Int).toNat).length = (l0.length - (ji3).toNat) from List.length_drop] <;> rfl) | (simp only [hji3]; rfl) | rfl | (simp only [List.length_drop, List.length_take]; rfl)) ?_; (with_reducible refine (slotcoderef05_Decode.calls k1 _ _ (l0.drop ((ji3) : Int).toNat) t286 t287 t288 t289 t290 t291 t292 t293 _ ?side1 ?side2 A6.out).mono ?_); (case side1 => repeat (first | exact (Kd.C_below HR285.out HB.out) | (with_reducible refine Kd.C_alloc ?_ _) | (with_reducible refine Kd.C_drewN ?_ _) | (with_reducible refine Kd.C_drew ?_))); (case side2 => exact HC285.out); rintro e w15 ⟨rfl, hb⟩; refine ⟨_, rfl, ?_⟩; have n0_ := Aside0.mk (Kd.R_below (by (with_reducible repeat (first | apply Kd.R_alloc | apply Kd.R_drewN | apply Kd.R_drew)); exact HO_5.out) hb); have n1_ := Aside0.mk (below_step (by repeat (first | (with_reducible first | exact HB.out | apply below_alloc | apply pw_below_drewN | apply below_drew1) | exact HB.out)) hb); clear HO_5; clear HB; have HO_5 := n0_; have HB := n1_; clear n0_ n1_; (try clear hb); (try clear hb2); (try clear hk); (try clear hi)) | ((with_reducible refine gate_dst (N := 7) rfl ?_); refine box_event ?hg (N := 7) ?hd (cs := #[.int .i64 0, .bool false, .int .i64 0, .int .i64 0, .int .i64 0, .int .i64 0]) (t := 23) ?hr ?_; (case hd => rfl); (case hg => rfl); (case hr => first | (go_simp; done) | (go_simp; rfl)); intro gb294 hg w16 hbox hb; have n0_ := Aside0.mk (Kd.R_below (Kd.R_elderB (by (with_reducible repeat (first | apply Kd.R_alloc | apply Kd.R_drewN | apply Kd.R_drew)); exact HO_5.out) gb294 (Nat.le_of_eq hg.symm)) hb); have n1_ := Aside0.mk (below_step (by repeat (first | (with_reducible first | exact HB.out | apply below_alloc | apply pw_below_drewN | apply below_drew1) | exact HB.out)) hb); have n2_ := Aside0.mk (hbox); have n3_ := Aside0.mk ((by rw [hg]; exact (below_size (by repeat (first | (with_reducible first | exact HB.out | apply below_alloc | apply pw_below_drewN | apply below_drew1) | exact HB.out))) : w.heap.size ≤ gb294)); have n4_ := Aside0.mk ((by rw [hg]; exact (below_size (by repeat (first | (with_reducible first | exact HB.out | apply below_alloc | apply pw_below_drewN | apply below_drew1) | exact HB.out))) : w.heap.size ≤ gb294)); clear HO_5; clear HB; have HO_5 := n0_; have HB := n1_; have BK294 := n2_; have GW294 := n3_; have GE294 := n4_; clear n0_ n1_ n2_ n3_ n4_; clear hb hbox hg; have hcz17_0 : w16.cell? ⟨gb294, 0, none⟩ = some (.int .i64 0) := (blk_cell BK294.out 0).trans rfl; have hcz17_1 : w16.cell? ⟨gb294, 1, none⟩ = some (.bool false) := (blk_cell BK294.out 1).trans rfl; have hcz17_2 : w16.cell? ⟨gb294, 2, none⟩ = some (.int .i64 0) := (blk_cell BK294.out 2).trans rfl; have hcz17_3 : w16.cell? ⟨gb294, 3, none⟩ = some (.int .i64 0) := (blk_cell BK294.out 3).trans rfl; have hcz17_4 : w16.cell? ⟨gb294, 4, none⟩ = some (.int .i64 0) := (blk_cell BK294.out 4).trans rfl; have hcz17_5 : w16.cell? ⟨gb294, 5, none⟩ = some (.int .i64 0) := (blk_cell BK294.out 5).trans rfl; have hfz17_0 := blk_frozen BK294.out 0; have hfz17_1 := blk_frozen BK294.out 1; have hfz17_2 := blk_frozen BK294.out 2; have hfz17_3 := blk_frozen BK294.out 3; have hfz17_4 := blk_frozen BK294.out 4; have hfz17_5 := blk_frozen BK294.out 5))
              go_ret3
              exact ⟨_, by first | rfl | (simp [errW_none, errW_some] <;> rfl) | (simp only [← hji3]; first | rfl | (simp [errW_none, errW_some] <;> rfl)) | (simp [*, errW_none, errW_some] <;> rfl), by first | exact Kd.R_nil _ _ _ _ _ | exact Kd.N_nil _ _ _ _ _ | exact Kd.V_nil _ _ _ _ _ | exact Kd.Q_nil _ _ _ _ _ | exact Kd.S_nil _ _ _ _ _, by repeat (first | (with_reducible first | exact HB.out | apply below_alloc | apply pw_below_drewN | apply below_drew1 | refine below_set ?_ GE294.out) | exact HB.out)⟩
          · rw [if_neg c5] at H
            exact absurd H (by simp)
        · rw [if_neg c4] at H
          exact absurd H (by simp)
      · rw [if_neg c2] at H
        have c2b0 : decide ((wrap64 (8 * x6_1)) < (l0.length : Int)) = false := decide_eq_false c2
        clear c2
        simp only [Option.some.injEq, Prod.mk.injEq] at H
        obtain ⟨rfl, rfl, rfl⟩ := H
        go_wp2
        go_ret3
        exact ⟨_, by first | rfl | (simp [errW_none, errW_some] <;> rfl) | (simp [*, errW_none, errW_some] <;> rfl), by (with_reducible repeat (first | apply Kd.R_alloc | apply Kd.R_drewN | apply Kd.R_drew)); exact HO_5.out, by repeat (first | (with_reducible first | exact HB.out | apply below_alloc | apply pw_below_drewN | apply below_drew1) | exact HB.out)⟩

-- NOT PRINTED: function 73 (slot_steps)

-- GIVEN: function 35 (slot_All)

-- GIVEN: function 29 (slotcodelaw05_alive)

end Go.Proofs.YtnllfppkfdnjpabDoor.Q
