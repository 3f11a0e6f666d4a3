-- PRINTED by print.py (a twelfth state) out of the translation. Not trusted: Lean checks it.
import Derived.Test.YtnllfppkfdnjpaaDoorIx0
import Derived.Test.YtnllfppkfdnjpaaDoorIx2
import Derived.Test.YtnllfppkfdnjpaaDoorAl7
import Derived.Test.YtnllfppkfdnjpaaDoorPair
namespace Go.Proofs.YtnllfppkfdnjpaaDoor.Q
open Go.RowKit Go.Proofs.YtnllfppkfdnjpaaDoorW.PrintWords Go.Proofs.YtnllfppkfdnjpaaDoorW.PrintLast Go.Proofs.YtnllfppkfdnjpaaDoorW.PrintMore
attribute [local go_sem] max2_int min2_int max_two min_two max_three min_three max_four min_four   -- for this text's walks alone
set_option linter.unusedVariables false
set_option linter.unusedSimpArgs false

/-! ### slotcodelaw07_CondMirror: function 12 -/
def slotcodelaw07_CondMirror.f (a0_0 : Int) (a0_1 : Bool) (a0_2 : Int) (a0_3 : Int) (a0_4 : Int) (a0_5 : Int) (a0_6 : Int) (a0_7 : Int) : Option (Bool) := (cond_Mirror.f a0_0).bind fun bt280 => (if bt280.2 = true then ((slotcodelaw07_alive.f).bind fun t284 => (if t284 = true then ((cond_Holds.f bt280.1 true a0_2 a0_3 a0_4 a0_5 a0_7 a0_6).bind fun t285 => ((cond_Holds.f a0_0 true a0_2 a0_3 a0_4 a0_5 a0_6 a0_7).bind fun t286 => (some (t285 == t286)))) else (some false))) else ((slotcodelaw07_alive.f).bind fun t287 => (some t287)))
def slotcodelaw07_CondMirror.T4 : Bool × List (List Nat × List Nat) := (true, [([], []), ([0], [0]), ([], []), ([2], [2]), ([], []), ([], []), ([4, 1, 0, 1, 4, 5], [1, 4]), ([5, 3, 6, 0, 1, 2, 3, 4, 5, 6], [3, 5])])
def slotcodelaw07_CondMirror.B4 : List Nat := [0, 1, 0, 4, 0, 0, 51, 127]
theorem slotcodelaw07_CondMirror.tab4 : rtab .any (opsOf Tryd.f12 4) = slotcodelaw07_CondMirror.T4 := by kernel_rfl
theorem slotcodelaw07_CondMirror.bits4 : waitsOk slotcodelaw07_CondMirror.T4.2 slotcodelaw07_CondMirror.B4 = true := by kernel_rfl
def slotcodelaw07_CondMirror.T6 : Bool × List (List Nat × List Nat) := (true, [([], []), ([0, 0], [0]), ([1], [1]), ([1], [1]), ([3, 1], [1, 3]), ([1], [1]), ([5, 1], [1, 5]), ([2, 4, 6, 1, 1], [1, 2, 4, 6]), ([1], [1]), ([1], [1]), ([9, 1], [1, 9]), ([1], [1]), ([11, 1], [1, 11]), ([8, 10, 12, 7, 1], [1, 8, 10, 12]), ([7, 13, 1], [1, 7, 13]), ([1, 14], [1, 14]), ([15, 13, 0, 1, 2, 3, 4, 5, 6, 7, 8, 9, 10, 11, 12, 13, 14, 15], [15])])
def slotcodelaw07_CondMirror.B6 : List Nat := [0, 1, 3, 3, 11, 3, 35, 127, 3, 3, 515, 3, 2051, 8191, 16383, 32767, 65535]
theorem slotcodelaw07_CondMirror.tab6 : rtab .any (opsOf Tryd.f12 6) = slotcodelaw07_CondMirror.T6 := by kernel_rfl
theorem slotcodelaw07_CondMirror.bits6 : waitsOk slotcodelaw07_CondMirror.T6.2 slotcodelaw07_CondMirror.B6 = true := by kernel_rfl
set_option maxHeartbeats 8000000 in
set_option maxRecDepth 100000 in
theorem slotcodelaw07_CondMirror.calls (a0_0 : Int) (a0_1 : Bool) (a0_2 : Int) (a0_3 : Int) (a0_4 : Int) (a0_5 : Int) (a0_6 : Int) (a0_7 : Int) (r : Bool) (w : World) (h : slotcodelaw07_CondMirror.f a0_0 a0_1 a0_2 a0_3 a0_4 a0_5 a0_6 a0_7 = some r) (hG : GG w) :
    Calls Tryd.prog 12 #[.agg #[.int .i64 a0_0, .bool a0_1, .int .i64 a0_2, .int .i64 a0_3, .int .i64 a0_4, .int .i64 a0_5, .int .u64 a0_6, .int .u64 a0_7]] w fun e w' => e = .returned (.bool r) ∧ Below w.heap.size w w' := by
  have hu39 := Tryd.underlying39
  have hu29 := Tryd.underlying29
  have HB := Aside0.mk (Below.refl w.heap.size w)
  have H : ((cond_Mirror.f a0_0).bind fun bt280 => (if bt280.2 = true then ((slotcodelaw07_alive.f).bind fun t284 => (if t284 = true then ((cond_Holds.f bt280.1 true a0_2 a0_3 a0_4 a0_5 a0_7 a0_6).bind fun t285 => ((cond_Holds.f a0_0 true a0_2 a0_3 a0_4 a0_5 a0_6 a0_7).bind fun t286 => (some (t285 == t286)))) else (some false))) else ((slotcodelaw07_alive.f).bind fun t287 => (some t287)))) = some r := h
  clear h
  replace H := Option.bind_eq_some_iff.mp H
  obtain ⟨⟨t280, t281⟩, A20, H⟩ := H
  replace H : (if t281 = true then ((slotcodelaw07_alive.f).bind fun t284 => (if t284 = true then ((cond_Holds.f t280 true a0_2 a0_3 a0_4 a0_5 a0_7 a0_6).bind fun t285 => ((cond_Holds.f a0_0 true a0_2 a0_3 a0_4 a0_5 a0_6 a0_7).bind fun t286 => (some (t285 == t286)))) else (some false))) else ((slotcodelaw07_alive.f).bind fun t287 => (some t287))) = some r := H
  have A2 := Aside0.mk A20
  clear A20
  by_cases c3 : t281 = true
  · subst c3
    have H1 : ((slotcodelaw07_alive.f).bind fun t284 => (if t284 = true then ((cond_Holds.f t280 true a0_2 a0_3 a0_4 a0_5 a0_7 a0_6).bind fun t285 => ((cond_Holds.f a0_0 true a0_2 a0_3 a0_4 a0_5 a0_6 a0_7).bind fun t286 => (some (t285 == t286)))) else (some false))) = some r := by rw [if_pos rfl] at H; exact H
    clear H
    have H := H1
    clear H1
    replace H := Option.bind_eq_some_iff.mp H
    obtain ⟨t284, A40, H⟩ := H
    replace H : (if t284 = true then ((cond_Holds.f t280 true a0_2 a0_3 a0_4 a0_5 a0_7 a0_6).bind fun t285 => ((cond_Holds.f a0_0 true a0_2 a0_3 a0_4 a0_5 a0_6 a0_7).bind fun t286 => (some (t285 == t286)))) else (some false)) = some r := H
    have A4 := Aside0.mk A40
    clear A40
    by_cases c5 : t284 = true
    · subst c5
      have H1 : ((cond_Holds.f t280 true a0_2 a0_3 a0_4 a0_5 a0_7 a0_6).bind fun t285 => ((cond_Holds.f a0_0 true a0_2 a0_3 a0_4 a0_5 a0_6 a0_7).bind fun t286 => (some (t285 == t286)))) = some r := by rw [if_pos rfl] at H; exact H
      clear H
      have H := H1
      clear H1
      replace H := Option.bind_eq_some_iff.mp H
      obtain ⟨t285, A60, H⟩ := H
      replace H : ((cond_Holds.f a0_0 true a0_2 a0_3 a0_4 a0_5 a0_6 a0_7).bind fun t286 => (some (t285 == t286))) = some r := H
      have A6 := Aside0.mk A60
      clear A60
      replace H := Option.bind_eq_some_iff.mp H
      obtain ⟨t286, A70, H⟩ := H
      replace H : (some (t285 == t286)) = some r := H
      have A7 := Aside0.mk A70
      clear A70
      obtain rfl := Option.some.inj H
      go_enter Tryd.func12, Tryd.ntmps12
      try go_wp2_with (first | ((with_reducible refine gate_dst (N := 1) rfl ?_); refine box_event ?hg (N := 1) ?hd (cs := #[.int .i64 a0_0, .bool a0_1, .int .i64 a0_2, .int .i64 a0_3, .int .i64 a0_4, .int .i64 a0_5, .int .u64 a0_6, .int .u64 a0_7]) (t := 39) ?hr ?_; (case hd => rfl); (case hg => rfl); (case hr => first | (go_simp; done) | (go_simp; rfl)); intro gb279 hg w8 hbox hb; have n0_ := Aside0.mk (below_step (by repeat (first | (with_reducible first | exact HB.out | apply below_alloc | apply pw_below_drewN | apply below_drew1) | exact HB.out)) hb); have n1_ := Aside0.mk (hbox); have n2_ := Aside0.mk ((by rw [hg]; exact (below_size (by repeat (first | (with_reducible first | exact HB.out | apply below_alloc | apply pw_below_drewN | apply below_drew1) | exact HB.out))) : w.heap.size ≤ gb279)); have n3_ := Aside0.mk ((by rw [hg]; exact (below_size (by repeat (first | (with_reducible first | exact HB.out | apply below_alloc | apply pw_below_drewN | apply below_drew1) | exact HB.out))) : w.heap.size ≤ gb279)); clear HB; have HB := n0_; have BK279 := n1_; have GW279 := n2_; have GE279 := n3_; clear n0_ n1_ n2_ n3_; clear hb hbox hg; have hcz9_0 : w8.cell? ⟨gb279, 0, none⟩ = some (.int .i64 a0_0) := (blk_cell BK279.out 0).trans rfl; have hcz9_1 : w8.cell? ⟨gb279, 1, none⟩ = some (.bool a0_1) := (blk_cell BK279.out 1).trans rfl; have hcz9_2 : w8.cell? ⟨gb279, 2, none⟩ = some (.int .i64 a0_2) := (blk_cell BK279.out 2).trans rfl; have hcz9_3 : w8.cell? ⟨gb279, 3, none⟩ = some (.int .i64 a0_3) := (blk_cell BK279.out 3).trans rfl; have hcz9_4 : w8.cell? ⟨gb279, 4, none⟩ = some (.int .i64 a0_4) := (blk_cell BK279.out 4).trans rfl; have hcz9_5 : w8.cell? ⟨gb279, 5, none⟩ = some (.int .i64 a0_5) := (blk_cell BK279.out 5).trans rfl; have hcz9_6 : w8.cell? ⟨gb279, 6, none⟩ = some (.int .u64 a0_6) := (blk_cell BK279.out 6).trans rfl; have hcz9_7 : w8.cell? ⟨gb279, 7, none⟩ = some (.int .u64 a0_7) := (blk_cell BK279.out 7).trans rfl; have hfz9_0 := blk_frozen BK279.out 0; have hfz9_1 := blk_frozen BK279.out 1; have hfz9_2 := blk_frozen BK279.out 2; have hfz9_3 := blk_frozen BK279.out 3; have hfz9_4 := blk_frozen BK279.out 4; have hfz9_5 := blk_frozen BK279.out 5; have hfz9_6 := blk_frozen BK279.out 6; have hfz9_7 := blk_frozen BK279.out 7) | ((with_reducible refine gate_callee (f := 34) rfl ?_); refine goesL_ (some 11) rfl rfl Tryd.func34 (by kernel_rfl) rfl #[.int .i64 a0_0] rfl (by (try simp only [List.map_toArray, List.map_cons, List.map_nil]); first | done | rfl | (simp only [List.length_drop, List.length_take]; rfl)) ?_; (with_reducible refine (cond_Mirror.calls a0_0 t280 true _ A2.out (G_at hG (by repeat (first | (with_reducible first | exact HB.out | apply below_alloc | apply pw_below_drewN | apply below_drew1 | refine below_set ?_ GE279.out | refine below_set ?_ GE282.out | refine below_set ?_ GE283.out) | exact HB.out)))).mono ?_); rintro e w10 ⟨rfl, hb⟩; refine ⟨_, rfl, ?_⟩; have n0_ := Aside0.mk (blk_below (g := gb279) (o := .cells #[.int .i64 a0_0, .bool a0_1, .int .i64 a0_2, .int .i64 a0_3, .int .i64 a0_4, .int .i64 a0_5, .int .u64 a0_6, .int .u64 a0_7] 39 (0, 0)) (by (with_reducible repeat (first | refine blk_drewN ?_ _ | refine blk_drew ?_ | refine blk_alloc ?_ _)); exact BK279.out) hb); have n1_ := Aside0.mk (below_step (by repeat (first | (with_reducible first | exact HB.out | apply below_alloc | apply pw_below_drewN | apply below_drew1 | refine below_set ?_ GE279.out) | exact HB.out)) hb); clear BK279; clear HB; have BK279 := n0_; have HB := n1_; clear n0_ n1_; (try clear hb); (try clear hb2); (try clear hk); (try clear hi)))
      have n0_ := Aside0.mk (blk_drew BK279.out)
      have n1_ := Aside0.mk (below_drew1 HB.out)
      clear BK279
      clear HB
      have BK279 := n0_
      have HB := n1_
      clear n0_ n1_
      refine start_ (n := 8) (S := fun w' => w'.cell? ⟨gb279, 0, none⟩ = some (.int .i64 a0_0) ∧ w'.cell? ⟨gb279, 1, none⟩ = some (.bool a0_1) ∧ w'.cell? ⟨gb279, 2, none⟩ = some (.int .i64 a0_2) ∧ w'.cell? ⟨gb279, 3, none⟩ = some (.int .i64 a0_3) ∧ w'.cell? ⟨gb279, 4, none⟩ = some (.int .i64 a0_4) ∧ w'.cell? ⟨gb279, 5, none⟩ = some (.int .i64 a0_5) ∧ w'.cell? ⟨gb279, 6, none⟩ = some (.int .u64 a0_6) ∧ w'.cell? ⟨gb279, 7, none⟩ = some (.int .u64 a0_7)) (ds := []) #[false, false, false, false, false, false, false, false] (by kernel_rfl) rfl rfl ⟨(blk_cell BK279.out 0).trans rfl, (blk_cell BK279.out 1).trans rfl, (blk_cell BK279.out 2).trans rfl, (blk_cell BK279.out 3).trans rfl, (blk_cell BK279.out 4).trans rfl, (blk_cell BK279.out 5).trans rfl, (blk_cell BK279.out 6).trans rfl, (blk_cell BK279.out 7).trans rfl⟩ (fun hHeld => ?_); refine with_tabW slotcodelaw07_CondMirror.tab4 slotcodelaw07_CondMirror.bits4 (fun HT_ HW_ => ?_)
      generalize w10.drew = w11 at BK279 HB hHeld ⊢
      refine pure_ (i := 0) (N := some 17) (v := ?_) (a' := ?_) #[true, false, false, false, false, false, false, false] rfl rfl (any_of HT_.out (by kernel_rfl)) (fun _ _ _ h => h) (Or.inl ⟨by rfl, ?_⟩) ?_ ?_
      rotate_left
      · intro w'
        go_simp
        with_reducible rfl
      rotate_left
      · simp only [Act.put, List.setIfInBounds_toArray, List.set_cons_zero, List.set_cons_succ, i64_w, i32_w]
        rfl
      refine pure_ (i := 2) (N := some 19) (v := ?_) (a' := ?_) #[true, false, true, false, false, false, false, false] rfl rfl (any_of HT_.out (by kernel_rfl)) (fun _ _ _ h => h) (Or.inl ⟨by rfl, ?_⟩) ?_ ?_
      rotate_left
      · intro w'
        go_simp
        with_reducible rfl
      rotate_left
      · simp only [Act.put, List.setIfInBounds_toArray, List.set_cons_zero, List.set_cons_succ, i64_w, i32_w]
        rfl
      refine take_ (i := 1) (N := some 18) (v := ?_) (a' := ?_) #[true, true, true, false, false, false, false, false] rfl rfl (take_ofW HT_.out HW_.out (by kernel_rfl)) (fun _ _ _ h => h) (Or.inl ⟨by rfl, ?_⟩) hHeld ?_ ?_
      rotate_left
      · rintro w' ⟨s0, s1, s2, s3, s4, s5, s6, s7⟩
        go_simp
        with_reducible rfl
      rotate_left
      · simp only [Act.put, List.setIfInBounds_toArray, List.set_cons_zero, List.set_cons_succ, i64_w, i32_w]
        rfl
      refine take_ (i := 3) (N := some 20) (v := ?_) (a' := ?_) #[true, true, true, true, false, false, false, false] rfl rfl (take_ofW HT_.out HW_.out (by kernel_rfl)) (fun _ _ _ h => h) (Or.inl ⟨by rfl, ?_⟩) hHeld ?_ ?_
      rotate_left
      · rintro w' ⟨s0, s1, s2, s3, s4, s5, s6, s7⟩
        go_simp
        with_reducible rfl
      rotate_left
      · simp only [Act.put, List.setIfInBounds_toArray, List.set_cons_zero, List.set_cons_succ, i64_w, i32_w]
        rfl
      refine join_ (σ := Nat × Nat) 2 #[true, true, true, true, true, true, false, false] (fun s_ => [(5, .pointer (some ⟨s_.1, 0, none⟩)), (6, .pointer (some ⟨s_.2, 0, none⟩))]) (fun s_ w' => (w'.cell? ⟨gb279, 0, none⟩ = some (.int .i64 a0_0) ∧ w'.cell? ⟨gb279, 1, none⟩ = some (.bool a0_1) ∧ w'.cell? ⟨gb279, 2, none⟩ = some (.int .i64 a0_2) ∧ w'.cell? ⟨gb279, 3, none⟩ = some (.int .i64 a0_3) ∧ w'.cell? ⟨gb279, 4, none⟩ = some (.int .i64 a0_4) ∧ w'.cell? ⟨gb279, 5, none⟩ = some (.int .i64 a0_5) ∧ w'.cell? ⟨gb279, 6, none⟩ = some (.int .u64 a0_6) ∧ w'.cell? ⟨gb279, 7, none⟩ = some (.int .u64 a0_7)) ∧ (w'.heap[gb279]? = some (.cells #[.int .i64 a0_0, .bool a0_1, .int .i64 a0_2, .int .i64 a0_3, .int .i64 a0_4, .int .i64 a0_5, .int .u64 a0_6, .int .u64 a0_7] 39 (0, 0))) ∧ (w'.heap[s_.1]? = some (.cells #[.int .i64 0, .bool false, .int .i64 0, .int .i64 0, .int .i64 0, .int .i64 0] 29 (0, 0))) ∧ (w'.heap[s_.2]? = some (.cells #[.int .i64 0, .bool false, .int .i64 0, .int .i64 0, .int .i64 0, .int .i64 0] 29 (0, 0))) ∧ (w.heap.size ≤ s_.1) ∧ (w.heap.size ≤ s_.1) ∧ (gb279 ≠ s_.1) ∧ (s_.1 ≠ gb279) ∧ (s_.2 ≠ s_.1) ∧ (s_.1 ≠ s_.2) ∧ (w.heap.size ≤ s_.2) ∧ (w.heap.size ≤ s_.2) ∧ (gb279 ≠ s_.2) ∧ (s_.2 ≠ gb279) ∧ (Below w.heap.size w w')) ?_ ?_
      rotate_left
      · intro hCont
        refine two_ (i := 4) (j := 5) (Ni := some 5) (Nj := some 6) #[true, true, true, true, true, false, false, false] #[true, true, true, true, false, true, false, false] rfl rfl rfl rfl (two_of HT_.out (by kernel_rfl)) (by decide) (by decide) (fun K hK => ?_) (fun K hK => ?_)
        · skip
          refine box_step ?hg (N := 5) ?hd (cs := #[.int .i64 0, .bool false, .int .i64 0, .int .i64 0, .int .i64 0, .int .i64 0]) (t := 29) ?hr ?_; (case hd => rfl); (case hg => rfl); (case hr => first | (go_simp; done) | (go_simp; rfl))
          intro gb282 hg w12 hbox hb
          have n0_ := Aside0.mk (blk_below (g := gb279) (o := .cells #[.int .i64 a0_0, .bool a0_1, .int .i64 a0_2, .int .i64 a0_3, .int .i64 a0_4, .int .i64 a0_5, .int .u64 a0_6, .int .u64 a0_7] 39 (0, 0)) (by (with_reducible repeat (first | refine blk_drewN ?_ _ | refine blk_drew ?_ | refine blk_alloc ?_ _)); exact BK279.out) hb)
          have n1_ := Aside0.mk (below_step (by repeat (first | (with_reducible first | exact HB.out | apply below_alloc | apply pw_below_drewN | apply below_drew1 | refine below_set ?_ GE279.out) | exact HB.out)) hb)
          have n2_ := Aside0.mk (hbox)
          have n3_ := Aside0.mk ((by rw [hg]; exact (below_size (by repeat (first | (with_reducible first | exact HB.out | apply below_alloc | apply pw_below_drewN | apply below_drew1 | refine below_set ?_ GE279.out) | exact HB.out))) : w.heap.size ≤ gb282))
          have n4_ := Aside0.mk ((by rw [hg]; exact (below_size (by repeat (first | (with_reducible first | exact HB.out | apply below_alloc | apply pw_below_drewN | apply below_drew1 | refine below_set ?_ GE279.out) | exact HB.out))) : w.heap.size ≤ gb282))
          have n5_ := Aside0.mk ((by rw [hg]; exact Nat.ne_of_lt (blk_lt (g := gb279) (o := .cells #[.int .i64 a0_0, .bool a0_1, .int .i64 a0_2, .int .i64 a0_3, .int .i64 a0_4, .int .i64 a0_5, .int .u64 a0_6, .int .u64 a0_7] 39 (0, 0)) (by (with_reducible repeat (first | refine blk_drewN ?_ _ | refine blk_drew ?_ | refine blk_alloc ?_ _)); exact BK279.out)) : gb279 ≠ gb282))
          have n6_ := Aside0.mk ((by rw [hg]; exact Nat.ne_of_gt (blk_lt (g := gb279) (o := .cells #[.int .i64 a0_0, .bool a0_1, .int .i64 a0_2, .int .i64 a0_3, .int .i64 a0_4, .int .i64 a0_5, .int .u64 a0_6, .int .u64 a0_7] 39 (0, 0)) (by (with_reducible repeat (first | refine blk_drewN ?_ _ | refine blk_drew ?_ | refine blk_alloc ?_ _)); exact BK279.out)) : gb282 ≠ gb279))
          clear BK279
          clear HB
          have BK279 := n0_
          have HB := n1_
          have BK282 := n2_
          have GW282 := n3_
          have GE282 := n4_
          have NB279_282 := n5_
          have NB282_279 := n6_
          clear n0_ n1_ n2_ n3_ n4_ n5_ n6_
          clear hb hbox hg
          refine hK.out _ _ ⟨(blk_cell BK279.out 0).trans rfl, (blk_cell BK279.out 1).trans rfl, (blk_cell BK279.out 2).trans rfl, (blk_cell BK279.out 3).trans rfl, (blk_cell BK279.out 4).trans rfl, (blk_cell BK279.out 5).trans rfl, (blk_cell BK279.out 6).trans rfl, (blk_cell BK279.out 7).trans rfl⟩ (fun hHeld => ?_)
          clear hK K
          refine norm_ (a' := ?_) ?_ ?_
          rotate_left
          · show Act.put _ (some 5) _ = _
            simp only [Act.put, List.setIfInBounds_toArray, List.set_cons_zero, List.set_cons_succ, i64_w, i32_w]
            rfl
          refine one_ (i := 5) (N := some 6) #[true, true, true, true, true, true, false, false] rfl rfl (one_of HT_.out (by kernel_rfl)) (by decide) (fun K hK => ?_)
          refine box_step ?hg (N := 6) ?hd (cs := #[.int .i64 0, .bool false, .int .i64 0, .int .i64 0, .int .i64 0, .int .i64 0]) (t := 29) ?hr ?_; (case hd => rfl); (case hg => rfl); (case hr => first | (go_simp; done) | (go_simp; rfl))
          intro gb283 hg w13 hbox hb
          have n0_ := Aside0.mk (blk_below (g := gb279) (o := .cells #[.int .i64 a0_0, .bool a0_1, .int .i64 a0_2, .int .i64 a0_3, .int .i64 a0_4, .int .i64 a0_5, .int .u64 a0_6, .int .u64 a0_7] 39 (0, 0)) (by (with_reducible repeat (first | refine blk_drewN ?_ _ | refine blk_drew ?_ | refine blk_alloc ?_ _)); exact BK279.out) hb)
          have n1_ := Aside0.mk (blk_below (g := gb282) (o := .cells #[.int .i64 0, .bool false, .int .i64 0, .int .i64 0, .int .i64 0, .int .i64 0] 29 (0, 0)) (by (with_reducible repeat (first | refine blk_drewN ?_ _ | refine blk_drew ?_ | refine blk_alloc ?_ _)); exact BK282.out) hb)
          have n2_ := Aside0.mk (below_step (by repeat (first | (with_reducible first | exact HB.out | apply below_alloc | apply pw_below_drewN | apply below_drew1 | refine below_set ?_ GE279.out | refine below_set ?_ GE282.out) | exact HB.out)) hb)
          have n3_ := Aside0.mk (hbox)
          have n4_ := Aside0.mk ((by rw [hg]; exact (below_size (by repeat (first | (with_reducible first | exact HB.out | apply below_alloc | apply pw_below_drewN | apply below_drew1 | refine below_set ?_ GE279.out | refine below_set ?_ GE282.out) | exact HB.out))) : w.heap.size ≤ gb283))
          have n5_ := Aside0.mk ((by rw [hg]; exact (below_size (by repeat (first | (with_reducible first | exact HB.out | apply below_alloc | apply pw_below_drewN | apply below_drew1 | refine below_set ?_ GE279.out | refine below_set ?_ GE282.out) | exact HB.out))) : w.heap.size ≤ gb283))
          have n6_ := Aside0.mk ((by rw [hg]; exact Nat.ne_of_lt (blk_lt (g := gb279) (o := .cells #[.int .i64 a0_0, .bool a0_1, .int .i64 a0_2, .int .i64 a0_3, .int .i64 a0_4, .int .i64 a0_5, .int .u64 a0_6, .int .u64 a0_7] 39 (0, 0)) (by (with_reducible repeat (first | refine blk_drewN ?_ _ | refine blk_drew ?_ | refine blk_alloc ?_ _)); exact BK279.out)) : gb279 ≠ gb283))
          have n7_ := Aside0.mk ((by rw [hg]; exact Nat.ne_of_gt (blk_lt (g := gb279) (o := .cells #[.int .i64 a0_0, .bool a0_1, .int .i64 a0_2, .int .i64 a0_3, .int .i64 a0_4, .int .i64 a0_5, .int .u64 a0_6, .int .u64 a0_7] 39 (0, 0)) (by (with_reducible repeat (first | refine blk_drewN ?_ _ | refine blk_drew ?_ | refine blk_alloc ?_ _)); exact BK279.out)) : gb283 ≠ gb279))
          have n8_ := Aside0.mk ((by rw [hg]; exact Nat.ne_of_lt (blk_lt (g := gb282) (o := .cells #[.int .i64 0, .bool false, .int .i64 0, .int .i64 0, .int .i64 0, .int .i64 0] 29 (0, 0)) (by (with_reducible repeat (first | refine blk_drewN ?_ _ | refine blk_drew ?_ | refine blk_alloc ?_ _)); exact BK282.out)) : gb282 ≠ gb283))
          have n9_ := Aside0.mk ((by rw [hg]; exact Nat.ne_of_gt (blk_lt (g := gb282) (o := .cells #[.int .i64 0, .bool false, .int .i64 0, .int .i64 0, .int .i64 0, .int .i64 0] 29 (0, 0)) (by (with_reducible repeat (first | refine blk_drewN ?_ _ | refine blk_drew ?_ | refine blk_alloc ?_ _)); exact BK282.out)) : gb283 ≠ gb282))
          clear BK279
          clear BK282
          clear HB
          have BK279 := n0_
          have BK282 := n1_
          have HB := n2_
          have BK283 := n3_
          have GW283 := n4_
          have GE283 := n5_
          have NB279_283 := n6_
          have NB283_279 := n7_
          have NB282_283 := n8_
          have NB283_282 := n9_
          clear n0_ n1_ n2_ n3_ n4_ n5_ n6_ n7_ n8_ n9_
          clear hb hbox hg
          refine hK.out _ _ ⟨(blk_cell BK279.out 0).trans rfl, (blk_cell BK279.out 1).trans rfl, (blk_cell BK279.out 2).trans rfl, (blk_cell BK279.out 3).trans rfl, (blk_cell BK279.out 4).trans rfl, (blk_cell BK279.out 5).trans rfl, (blk_cell BK279.out 6).trans rfl, (blk_cell BK279.out 7).trans rfl⟩ (fun hHeld => ?_)
          clear hK K
          refine norm_ (a' := ?_) ?_ ?_
          rotate_left
          · show Act.put _ (some 6) _ = _
            simp only [Act.put, List.setIfInBounds_toArray, List.set_cons_zero, List.set_cons_succ, i64_w, i32_w]
            rfl
          exact norm_ (by simp only [putAll, Act.put, List.setIfInBounds_toArray, List.set_cons_zero, List.set_cons_succ]) (hCont (gb282, gb283) _ ⟨hHeld, (by (with_reducible repeat (first | refine blk_drewN ?_ _ | refine blk_drew ?_ | refine blk_alloc ?_ _)); exact BK279.out), (by (with_reducible repeat (first | refine blk_drewN ?_ _ | refine blk_drew ?_ | refine blk_alloc ?_ _)); exact BK282.out), (by (with_reducible repeat (first | refine blk_drewN ?_ _ | refine blk_drew ?_ | refine blk_alloc ?_ _)); exact BK283.out), GW282.out, GE282.out, NB279_282.out, NB282_279.out, NB283_282.out, NB282_283.out, GW283.out, GE283.out, NB279_283.out, NB283_279.out, (by repeat (first | (with_reducible first | exact HB.out | apply below_alloc | apply pw_below_drewN | apply below_drew1 | refine below_set ?_ GE279.out | refine below_set ?_ GE282.out | refine below_set ?_ GE283.out) | exact HB.out))⟩)
        · skip
          refine box_step ?hg (N := 6) ?hd (cs := #[.int .i64 0, .bool false, .int .i64 0, .int .i64 0, .int .i64 0, .int .i64 0]) (t := 29) ?hr ?_; (case hd => rfl); (case hg => rfl); (case hr => first | (go_simp; done) | (go_simp; rfl))
          intro gb283 hg w12 hbox hb
          have n0_ := Aside0.mk (blk_below (g := gb279) (o := .cells #[.int .i64 a0_0, .bool a0_1, .int .i64 a0_2, .int .i64 a0_3, .int .i64 a0_4, .int .i64 a0_5, .int .u64 a0_6, .int .u64 a0_7] 39 (0, 0)) (by (with_reducible repeat (first | refine blk_drewN ?_ _ | refine blk_drew ?_ | refine blk_alloc ?_ _)); exact BK279.out) hb)
          have n1_ := Aside0.mk (below_step (by repeat (first | (with_reducible first | exact HB.out | apply below_alloc | apply pw_below_drewN | apply below_drew1 | refine below_set ?_ GE279.out) | exact HB.out)) hb)
          have n2_ := Aside0.mk (hbox)
          have n3_ := Aside0.mk ((by rw [hg]; exact (below_size (by repeat (first | (with_reducible first | exact HB.out | apply below_alloc | apply pw_below_drewN | apply below_drew1 | refine below_set ?_ GE279.out) | exact HB.out))) : w.heap.size ≤ gb283))
          have n4_ := Aside0.mk ((by rw [hg]; exact (below_size (by repeat (first | (with_reducible first | exact HB.out | apply below_alloc | apply pw_below_drewN | apply below_drew1 | refine below_set ?_ GE279.out) | exact HB.out))) : w.heap.size ≤ gb283))
          have n5_ := Aside0.mk ((by rw [hg]; exact Nat.ne_of_lt (blk_lt (g := gb279) (o := .cells #[.int .i64 a0_0, .bool a0_1, .int .i64 a0_2, .int .i64 a0_3, .int .i64 a0_4, .int .i64 a0_5, .int .u64 a0_6, .int .u64 a0_7] 39 (0, 0)) (by (with_reducible repeat (first | refine blk_drewN ?_ _ | refine blk_drew ?_ | refine blk_alloc ?_ _)); exact BK279.out)) : gb279 ≠ gb283))
          have n6_ := Aside0.mk ((by rw [hg]; exact Nat.ne_of_gt (blk_lt (g := gb279) (o := .cells #[.int .i64 a0_0, .bool a0_1, .int .i64 a0_2, .int .i64 a0_3, .int .i64 a0_4, .int .i64 a0_5, .int .u64 a0_6, .int .u64 a0_7] 39 (0, 0)) (by (with_reducible repeat (first | refine blk_drewN ?_ _ | refine blk_drew ?_ | refine blk_alloc ?_ _)); exact BK279.out)) : gb283 ≠ gb279))
          clear BK279
          clear HB
          have BK279 := n0_
          have HB := n1_
          have BK283 := n2_
          have GW283 := n3_
          have GE283 := n4_
          have NB279_283 := n5_
          have NB283_279 := n6_
          clear n0_ n1_ n2_ n3_ n4_ n5_ n6_
          clear hb hbox hg
          refine hK.out _ _ ⟨(blk_cell BK279.out 0).trans rfl, (blk_cell BK279.out 1).trans rfl, (blk_cell BK279.out 2).trans rfl, (blk_cell BK279.out 3).trans rfl, (blk_cell BK279.out 4).trans rfl, (blk_cell BK279.out 5).trans rfl, (blk_cell BK279.out 6).trans rfl, (blk_cell BK279.out 7).trans rfl⟩ (fun hHeld => ?_)
          clear hK K
          refine norm_ (a' := ?_) ?_ ?_
          rotate_left
          · show Act.put _ (some 6) _ = _
            simp only [Act.put, List.setIfInBounds_toArray, List.set_cons_zero, List.set_cons_succ, i64_w, i32_w]
            rfl
          refine one_ (i := 4) (N := some 5) #[true, true, true, true, true, true, false, false] rfl rfl (one_of HT_.out (by kernel_rfl)) (by decide) (fun K hK => ?_)
          refine box_step ?hg (N := 5) ?hd (cs := #[.int .i64 0, .bool false, .int .i64 0, .int .i64 0, .int .i64 0, .int .i64 0]) (t := 29) ?hr ?_; (case hd => rfl); (case hg => rfl); (case hr => first | (go_simp; done) | (go_simp; rfl))
          intro gb282 hg w13 hbox hb
          have n0_ := Aside0.mk (blk_below (g := gb279) (o := .cells #[.int .i64 a0_0, .bool a0_1, .int .i64 a0_2, .int .i64 a0_3, .int .i64 a0_4, .int .i64 a0_5, .int .u64 a0_6, .int .u64 a0_7] 39 (0, 0)) (by (with_reducible repeat (first | refine blk_drewN ?_ _ | refine blk_drew ?_ | refine blk_alloc ?_ _)); exact BK279.out) hb)
          have n1_ := Aside0.mk (blk_below (g := gb283) (o := .cells #[.int .i64 0, .bool false, .int .i64 0, .int .i64 0, .int .i64 0, .int .i64 0] 29 (0, 0)) (by (with_reducible repeat (first | refine blk_drewN ?_ _ | refine blk_drew ?_ | refine blk_alloc ?_ _)); exact BK283.out) hb)
          have n2_ := Aside0.mk (below_step (by repeat (first | (with_reducible first | exact HB.out | apply below_alloc | apply pw_below_drewN | apply below_drew1 | refine below_set ?_ GE279.out | refine below_set ?_ GE283.out) | exact HB.out)) hb)
          have n3_ := Aside0.mk (hbox)
          have n4_ := Aside0.mk ((by rw [hg]; exact (below_size (by repeat (first | (with_reducible first | exact HB.out | apply below_alloc | apply pw_below_drewN | apply below_drew1 | refine below_set ?_ GE279.out | refine below_set ?_ GE283.out) | exact HB.out))) : w.heap.size ≤ gb282))
          have n5_ := Aside0.mk ((by rw [hg]; exact (below_size (by repeat (first | (with_reducible first | exact HB.out | apply below_alloc | apply pw_below_drewN | apply below_drew1 | refine below_set ?_ GE279.out | refine below_set ?_ GE283.out) | exact HB.out))) : w.heap.size ≤ gb282))
          have n6_ := Aside0.mk ((by rw [hg]; exact Nat.ne_of_lt (blk_lt (g := gb279) (o := .cells #[.int .i64 a0_0, .bool a0_1, .int .i64 a0_2, .int .i64 a0_3, .int .i64 a0_4, .int .i64 a0_5, .int .u64 a0_6, .int .u64 a0_7] 39 (0, 0)) (by (with_reducible repeat (first | refine blk_drewN ?_ _ | refine blk_drew ?_ | refine blk_alloc ?_ _)); exact BK279.out)) : gb279 ≠ gb282))
          have n7_ := Aside0.mk ((by rw [hg]; exact Nat.ne_of_gt (blk_lt (g := gb279) (o := .cells #[.int .i64 a0_0, .bool a0_1, .int .i64 a0_2, .int .i64 a0_3, .int .i64 a0_4, .int .i64 a0_5, .int .u64 a0_6, .int .u64 a0_7] 39 (0, 0)) (by (with_reducible repeat (first | refine blk_drewN ?_ _ | refine blk_drew ?_ | refine blk_alloc ?_ _)); exact BK279.out)) : gb282 ≠ gb279))
          have n8_ := Aside0.mk ((by rw [hg]; exact Nat.ne_of_lt (blk_lt (g := gb283) (o := .cells #[.int .i64 0, .bool false, .int .i64 0, .int .i64 0, .int .i64 0, .int .i64 0] 29 (0, 0)) (by (with_reducible repeat (first | refine blk_drewN ?_ _ | refine blk_drew ?_ | refine blk_alloc ?_ _)); exact BK283.out)) : gb283 ≠ gb282))
          have n9_ := Aside0.mk ((by rw [hg]; exact Nat.ne_of_gt (blk_lt (g := gb283) (o := .cells #[.int .i64 0, .bool false, .int .i64 0, .int .i64 0, .int .i64 0, .int .i64 0] 29 (0, 0)) (by (with_reducible repeat (first | refine blk_drewN ?_ _ | refine blk_drew ?_ | refine blk_alloc ?_ _)); exact BK283.out)) : gb282 ≠ gb283))
          clear BK279
          clear BK283
          clear HB
          have BK279 := n0_
          have BK283 := n1_
          have HB := n2_
          have BK282 := n3_
          have GW282 := n4_
          have GE282 := n5_
          have NB279_282 := n6_
          have NB282_279 := n7_
          have NB283_282 := n8_
          have NB282_283 := n9_
          clear n0_ n1_ n2_ n3_ n4_ n5_ n6_ n7_ n8_ n9_
          clear hb hbox hg
          refine hK.out _ _ ⟨(blk_cell BK279.out 0).trans rfl, (blk_cell BK279.out 1).trans rfl, (blk_cell BK279.out 2).trans rfl, (blk_cell BK279.out 3).trans rfl, (blk_cell BK279.out 4).trans rfl, (blk_cell BK279.out 5).trans rfl, (blk_cell BK279.out 6).trans rfl, (blk_cell BK279.out 7).trans rfl⟩ (fun hHeld => ?_)
          clear hK K
          refine norm_ (a' := ?_) ?_ ?_
          rotate_left
          · show Act.put _ (some 5) _ = _
            simp only [Act.put, List.setIfInBounds_toArray, List.set_cons_zero, List.set_cons_succ, i64_w, i32_w]
            rfl
          exact norm_ (by simp only [putAll, Act.put, List.setIfInBounds_toArray, List.set_cons_zero, List.set_cons_succ]) (hCont (gb282, gb283) _ ⟨hHeld, (by (with_reducible repeat (first | refine blk_drewN ?_ _ | refine blk_drew ?_ | refine blk_alloc ?_ _)); exact BK279.out), (by (with_reducible repeat (first | refine blk_drewN ?_ _ | refine blk_drew ?_ | refine blk_alloc ?_ _)); exact BK282.out), (by (with_reducible repeat (first | refine blk_drewN ?_ _ | refine blk_drew ?_ | refine blk_alloc ?_ _)); exact BK283.out), GW282.out, GE282.out, NB279_282.out, NB282_279.out, NB283_282.out, NB282_283.out, GW283.out, GE283.out, NB279_283.out, NB283_279.out, (by repeat (first | (with_reducible first | exact HB.out | apply below_alloc | apply pw_below_drewN | apply below_drew1 | refine below_set ?_ GE279.out | refine below_set ?_ GE283.out | refine below_set ?_ GE282.out) | exact HB.out))⟩)
      rintro ⟨gb282, gb283⟩ w14 ⟨hS_, h0_, h1_, h2_, h3_, h4_, h5_, h6_, h7_, h8_, h9_, h10_, h11_, h12_, h13_⟩
      have n0_ : Aside0 (w14.heap[gb279]? = some (.cells #[.int .i64 a0_0, .bool a0_1, .int .i64 a0_2, .int .i64 a0_3, .int .i64 a0_4, .int .i64 a0_5, .int .u64 a0_6, .int .u64 a0_7] 39 (0, 0))) := ⟨h0_⟩
      have n1_ : Aside0 (w14.heap[gb282]? = some (.cells #[.int .i64 0, .bool false, .int .i64 0, .int .i64 0, .int .i64 0, .int .i64 0] 29 (0, 0))) := ⟨h1_⟩
      have n2_ : Aside0 (w14.heap[gb283]? = some (.cells #[.int .i64 0, .bool false, .int .i64 0, .int .i64 0, .int .i64 0, .int .i64 0] 29 (0, 0))) := ⟨h2_⟩
      have n3_ : Aside0 (w.heap.size ≤ gb282) := ⟨h3_⟩
      have n4_ : Aside0 (w.heap.size ≤ gb282) := ⟨h4_⟩
      have n5_ : Aside0 (gb279 ≠ gb282) := ⟨h5_⟩
      have n6_ : Aside0 (gb282 ≠ gb279) := ⟨h6_⟩
      have n7_ : Aside0 (gb283 ≠ gb282) := ⟨h7_⟩
      have n8_ : Aside0 (gb282 ≠ gb283) := ⟨h8_⟩
      have n9_ : Aside0 (w.heap.size ≤ gb283) := ⟨h9_⟩
      have n10_ : Aside0 (w.heap.size ≤ gb283) := ⟨h10_⟩
      have n11_ : Aside0 (gb279 ≠ gb283) := ⟨h11_⟩
      have n12_ : Aside0 (gb283 ≠ gb279) := ⟨h12_⟩
      have n13_ : Aside0 (Below w.heap.size w w14) := ⟨h13_⟩
      clear BK279
      clear HB
      clear h0_ h1_ h2_ h3_ h4_ h5_ h6_ h7_ h8_ h9_ h10_ h11_ h12_ h13_
      have BK279 := n0_
      have BK282 := n1_
      have BK283 := n2_
      have GW282 := n3_
      have GE282 := n4_
      have NB279_282 := n5_
      have NB282_279 := n6_
      have NB283_282 := n7_
      have NB282_283 := n8_
      have GW283 := n9_
      have GE283 := n10_
      have NB279_283 := n11_
      have NB283_279 := n12_
      have HB := n13_
      clear n0_ n1_ n2_ n3_ n4_ n5_ n6_ n7_ n8_ n9_ n10_ n11_ n12_ n13_
      have hHeld : w14.cell? ⟨gb279, 0, none⟩ = some (.int .i64 a0_0) ∧ w14.cell? ⟨gb279, 1, none⟩ = some (.bool a0_1) ∧ w14.cell? ⟨gb279, 2, none⟩ = some (.int .i64 a0_2) ∧ w14.cell? ⟨gb279, 3, none⟩ = some (.int .i64 a0_3) ∧ w14.cell? ⟨gb279, 4, none⟩ = some (.int .i64 a0_4) ∧ w14.cell? ⟨gb279, 5, none⟩ = some (.int .i64 a0_5) ∧ w14.cell? ⟨gb279, 6, none⟩ = some (.int .u64 a0_6) ∧ w14.cell? ⟨gb279, 7, none⟩ = some (.int .u64 a0_7) := hS_
      refine norm_ (a' := ?_) ?_ ?_
      rotate_left
      · simp only [putAll, Act.put, List.setIfInBounds_toArray, List.set_cons_zero, List.set_cons_succ]
        rfl
      refine one_ (i := 6) (N := none) #[true, true, true, true, true, true, true, false] rfl rfl (one_of HT_.out (by kernel_rfl)) (by decide) (fun K hK => ?_)
      have hs15 : w14.cell? ⟨gb282, 0, none⟩ = some (.int .i64 0) := (blk_cell BK282.out 0).trans rfl
      have hfs15 := blk_frozen BK282.out 0
      have hns15_0 := NB279_282.out
      have hns15_2 := NB283_282.out
      have hms15_0 := NB282_279.out
      have hms15_2 := NB282_283.out
      have hs16 : w14.cell? ⟨gb282, 1, none⟩ = some (.bool false) := (blk_cell BK282.out 1).trans rfl
      have hfs16 := blk_frozen BK282.out 1
      have hns16_0 := NB279_282.out
      have hns16_2 := NB283_282.out
      have hms16_0 := NB282_279.out
      have hms16_2 := NB282_283.out
      have hs17 : w14.cell? ⟨gb282, 2, none⟩ = some (.int .i64 0) := (blk_cell BK282.out 2).trans rfl
      have hfs17 := blk_frozen BK282.out 2
      have hns17_0 := NB279_282.out
      have hns17_2 := NB283_282.out
      have hms17_0 := NB282_279.out
      have hms17_2 := NB282_283.out
      have hs18 : w14.cell? ⟨gb282, 3, none⟩ = some (.int .i64 0) := (blk_cell BK282.out 3).trans rfl
      have hfs18 := blk_frozen BK282.out 3
      have hns18_0 := NB279_282.out
      have hns18_2 := NB283_282.out
      have hms18_0 := NB282_279.out
      have hms18_2 := NB282_283.out
      have hs19 : w14.cell? ⟨gb282, 4, none⟩ = some (.int .i64 0) := (blk_cell BK282.out 4).trans rfl
      have hfs19 := blk_frozen BK282.out 4
      have hns19_0 := NB279_282.out
      have hns19_2 := NB283_282.out
      have hms19_0 := NB282_279.out
      have hms19_2 := NB282_283.out
      have hs20 : w14.cell? ⟨gb282, 5, none⟩ = some (.int .i64 0) := (blk_cell BK282.out 5).trans rfl
      have hfs20 := blk_frozen BK282.out 5
      have hns20_0 := NB279_282.out
      have hns20_2 := NB283_282.out
      have hms20_0 := NB282_279.out
      have hms20_2 := NB282_283.out
      refine skip_ (w1 := ?_) (by rfl) rfl ?_ ?_
      rotate_left
      · go_simp
        rfl
      refine hK.out _ _ ⟨((cell_far (p := ⟨gb282, _, none⟩) NB279_282.out _).trans (((cell_far (p := ⟨gb282, _, none⟩) NB279_282.out _).trans (((cell_far (p := ⟨gb282, _, none⟩) NB279_282.out _).trans (((cell_far (p := ⟨gb282, _, none⟩) NB279_282.out _).trans (((cell_far (p := ⟨gb282, _, none⟩) NB279_282.out _).trans (((cell_far (p := ⟨gb282, _, none⟩) NB279_282.out _).trans (hHeld.1)))))))))))), ((cell_far (p := ⟨gb282, _, none⟩) NB279_282.out _).trans (((cell_far (p := ⟨gb282, _, none⟩) NB279_282.out _).trans (((cell_far (p := ⟨gb282, _, none⟩) NB279_282.out _).trans (((cell_far (p := ⟨gb282, _, none⟩) NB279_282.out _).trans (((cell_far (p := ⟨gb282, _, none⟩) NB279_282.out _).trans (((cell_far (p := ⟨gb282, _, none⟩) NB279_282.out _).trans (hHeld.2.1)))))))))))), ((cell_far (p := ⟨gb282, _, none⟩) NB279_282.out _).trans (((cell_far (p := ⟨gb282, _, none⟩) NB279_282.out _).trans (((cell_far (p := ⟨gb282, _, none⟩) NB279_282.out _).trans (((cell_far (p := ⟨gb282, _, none⟩) NB279_282.out _).trans (((cell_far (p := ⟨gb282, _, none⟩) NB279_282.out _).trans (((cell_far (p := ⟨gb282, _, none⟩) NB279_282.out _).trans (hHeld.2.2.1)))))))))))), ((cell_far (p := ⟨gb282, _, none⟩) NB279_282.out _).trans (((cell_far (p := ⟨gb282, _, none⟩) NB279_282.out _).trans (((cell_far (p := ⟨gb282, _, none⟩) NB279_282.out _).trans (((cell_far (p := ⟨gb282, _, none⟩) NB279_282.out _).trans (((cell_far (p := ⟨gb282, _, none⟩) NB279_282.out _).trans (((cell_far (p := ⟨gb282, _, none⟩) NB279_282.out _).trans (hHeld.2.2.2.1)))))))))))), ((cell_far (p := ⟨gb282, _, none⟩) NB279_282.out _).trans (((cell_far (p := ⟨gb282, _, none⟩) NB279_282.out _).trans (((cell_far (p := ⟨gb282, _, none⟩) NB279_282.out _).trans (((cell_far (p := ⟨gb282, _, none⟩) NB279_282.out _).trans (((cell_far (p := ⟨gb282, _, none⟩) NB279_282.out _).trans (((cell_far (p := ⟨gb282, _, none⟩) NB279_282.out _).trans (hHeld.2.2.2.2.1)))))))))))), ((cell_far (p := ⟨gb282, _, none⟩) NB279_282.out _).trans (((cell_far (p := ⟨gb282, _, none⟩) NB279_282.out _).trans (((cell_far (p := ⟨gb282, _, none⟩) NB279_282.out _).trans (((cell_far (p := ⟨gb282, _, none⟩) NB279_282.out _).trans (((cell_far (p := ⟨gb282, _, none⟩) NB279_282.out _).trans (((cell_far (p := ⟨gb282, _, none⟩) NB279_282.out _).trans (hHeld.2.2.2.2.2.1)))))))))))), ((cell_far (p := ⟨gb282, _, none⟩) NB279_282.out _).trans (((cell_far (p := ⟨gb282, _, none⟩) NB279_282.out _).trans (((cell_far (p := ⟨gb282, _, none⟩) NB279_282.out _).trans (((cell_far (p := ⟨gb282, _, none⟩) NB279_282.out _).trans (((cell_far (p := ⟨gb282, _, none⟩) NB279_282.out _).trans (((cell_far (p := ⟨gb282, _, none⟩) NB279_282.out _).trans (hHeld.2.2.2.2.2.2.1)))))))))))), ((cell_far (p := ⟨gb282, _, none⟩) NB279_282.out _).trans (((cell_far (p := ⟨gb282, _, none⟩) NB279_282.out _).trans (((cell_far (p := ⟨gb282, _, none⟩) NB279_282.out _).trans (((cell_far (p := ⟨gb282, _, none⟩) NB279_282.out _).trans (((cell_far (p := ⟨gb282, _, none⟩) NB279_282.out _).trans (((cell_far (p := ⟨gb282, _, none⟩) NB279_282.out _).trans (hHeld.2.2.2.2.2.2.2))))))))))))⟩ (fun hHeld => ?_)
      clear hK K
      refine one_ (i := 7) (N := none) #[true, true, true, true, true, true, true, true] rfl rfl (one_of HT_.out (by kernel_rfl)) (by decide) (fun K hK => ?_)
      have hs21 : w14.cell? ⟨gb283, 0, none⟩ = some (.int .i64 0) := (blk_cell BK283.out 0).trans rfl
      have hfs21 := blk_frozen BK283.out 0
      have hns21_0 := NB279_283.out
      have hns21_1 := NB282_283.out
      have hms21_0 := NB283_279.out
      have hms21_1 := NB283_282.out
      have hs22 : w14.cell? ⟨gb283, 1, none⟩ = some (.bool false) := (blk_cell BK283.out 1).trans rfl
      have hfs22 := blk_frozen BK283.out 1
      have hns22_0 := NB279_283.out
      have hns22_1 := NB282_283.out
      have hms22_0 := NB283_279.out
      have hms22_1 := NB283_282.out
      have hs23 : w14.cell? ⟨gb283, 2, none⟩ = some (.int .i64 0) := (blk_cell BK283.out 2).trans rfl
      have hfs23 := blk_frozen BK283.out 2
      have hns23_0 := NB279_283.out
      have hns23_1 := NB282_283.out
      have hms23_0 := NB283_279.out
      have hms23_1 := NB283_282.out
      have hs24 : w14.cell? ⟨gb283, 3, none⟩ = some (.int .i64 0) := (blk_cell BK283.out 3).trans rfl
      have hfs24 := blk_frozen BK283.out 3
      have hns24_0 := NB279_283.out
      have hns24_1 := NB282_283.out
      have hms24_0 := NB283_279.out
      have hms24_1 := NB283_282.out
      have hs25 : w14.cell? ⟨gb283, 4, none⟩ = some (.int .i64 0) := (blk_cell BK283.out 4).trans rfl
      have hfs25 := blk_frozen BK283.out 4
      have hns25_0 := NB279_283.out
      have hns25_1 := NB282_283.out
      have hms25_0 := NB283_279.out
      have hms25_1 := NB283_282.out
      have hs26 : w14.cell? ⟨gb283, 5, none⟩ = some (.int .i64 0) := (blk_cell BK283.out 5).trans rfl
      have hfs26 := blk_frozen BK283.out 5
      have hns26_0 := NB279_283.out
      have hns26_1 := NB282_283.out
      have hms26_0 := NB283_279.out
      have hms26_1 := NB283_282.out
      refine skip_ (w1 := ?_) (by rfl) rfl ?_ ?_
      rotate_left
      · go_simp
        rfl
      refine hK.out _ _ ⟨((cell_far (p := ⟨gb283, _, none⟩) NB279_283.out _).trans (((cell_far (p := ⟨gb283, _, none⟩) NB279_283.out _).trans (((cell_far (p := ⟨gb283, _, none⟩) NB279_283.out _).trans (((cell_far (p := ⟨gb283, _, none⟩) NB279_283.out _).trans (((cell_far (p := ⟨gb283, _, none⟩) NB279_283.out _).trans (((cell_far (p := ⟨gb283, _, none⟩) NB279_283.out _).trans (hHeld.1)))))))))))), ((cell_far (p := ⟨gb283, _, none⟩) NB279_283.out _).trans (((cell_far (p := ⟨gb283, _, none⟩) NB279_283.out _).trans (((cell_far (p := ⟨gb283, _, none⟩) NB279_283.out _).trans (((cell_far (p := ⟨gb283, _, none⟩) NB279_283.out _).trans (((cell_far (p := ⟨gb283, _, none⟩) NB279_283.out _).trans (((cell_far (p := ⟨gb283, _, none⟩) NB279_283.out _).trans (hHeld.2.1)))))))))))), ((cell_far (p := ⟨gb283, _, none⟩) NB279_283.out _).trans (((cell_far (p := ⟨gb283, _, none⟩) NB279_283.out _).trans (((cell_far (p := ⟨gb283, _, none⟩) NB279_283.out _).trans (((cell_far (p := ⟨gb283, _, none⟩) NB279_283.out _).trans (((cell_far (p := ⟨gb283, _, none⟩) NB279_283.out _).trans (((cell_far (p := ⟨gb283, _, none⟩) NB279_283.out _).trans (hHeld.2.2.1)))))))))))), ((cell_far (p := ⟨gb283, _, none⟩) NB279_283.out _).trans (((cell_far (p := ⟨gb283, _, none⟩) NB279_283.out _).trans (((cell_far (p := ⟨gb283, _, none⟩) NB279_283.out _).trans (((cell_far (p := ⟨gb283, _, none⟩) NB279_283.out _).trans (((cell_far (p := ⟨gb283, _, none⟩) NB279_283.out _).trans (((cell_far (p := ⟨gb283, _, none⟩) NB279_283.out _).trans (hHeld.2.2.2.1)))))))))))), ((cell_far (p := ⟨gb283, _, none⟩) NB279_283.out _).trans (((cell_far (p := ⟨gb283, _, none⟩) NB279_283.out _).trans (((cell_far (p := ⟨gb283, _, none⟩) NB279_283.out _).trans (((cell_far (p := ⟨gb283, _, none⟩) NB279_283.out _).trans (((cell_far (p := ⟨gb283, _, none⟩) NB279_283.out _).trans (((cell_far (p := ⟨gb283, _, none⟩) NB279_283.out _).trans (hHeld.2.2.2.2.1)))))))))))), ((cell_far (p := ⟨gb283, _, none⟩) NB279_283.out _).trans (((cell_far (p := ⟨gb283, _, none⟩) NB279_283.out _).trans (((cell_far (p := ⟨gb283, _, none⟩) NB279_283.out _).trans (((cell_far (p := ⟨gb283, _, none⟩) NB279_283.out _).trans (((cell_far (p := ⟨gb283, _, none⟩) NB279_283.out _).trans (((cell_far (p := ⟨gb283, _, none⟩) NB279_283.out _).trans (hHeld.2.2.2.2.2.1)))))))))))), ((cell_far (p := ⟨gb283, _, none⟩) NB279_283.out _).trans (((cell_far (p := ⟨gb283, _, none⟩) NB279_283.out _).trans (((cell_far (p := ⟨gb283, _, none⟩) NB279_283.out _).trans (((cell_far (p := ⟨gb283, _, none⟩) NB279_283.out _).trans (((cell_far (p := ⟨gb283, _, none⟩) NB279_283.out _).trans (((cell_far (p := ⟨gb283, _, none⟩) NB279_283.out _).trans (hHeld.2.2.2.2.2.2.1)))))))))))), ((cell_far (p := ⟨gb283, _, none⟩) NB279_283.out _).trans (((cell_far (p := ⟨gb283, _, none⟩) NB279_283.out _).trans (((cell_far (p := ⟨gb283, _, none⟩) NB279_283.out _).trans (((cell_far (p := ⟨gb283, _, none⟩) NB279_283.out _).trans (((cell_far (p := ⟨gb283, _, none⟩) NB279_283.out _).trans (((cell_far (p := ⟨gb283, _, none⟩) NB279_283.out _).trans (hHeld.2.2.2.2.2.2.2))))))))))))⟩ (fun hHeld => ?_)
      clear hK K
      refine done_ (done_of HT_.out (by kernel_rfl)) ?_
      have hnb27 := NB282_279.out
      have hnc27 := NB279_282.out
      have hnb28 := NB282_283.out
      have hnc28 := NB283_282.out
      have hcz29_0 : w14.cell? ⟨gb282, 0, none⟩ = some (.int .i64 0) := (blk_cell BK282.out 0).trans rfl
      have hcz29_1 : w14.cell? ⟨gb282, 1, none⟩ = some (.bool false) := (blk_cell BK282.out 1).trans rfl
      have hcz29_2 : w14.cell? ⟨gb282, 2, none⟩ = some (.int .i64 0) := (blk_cell BK282.out 2).trans rfl
      have hcz29_3 : w14.cell? ⟨gb282, 3, none⟩ = some (.int .i64 0) := (blk_cell BK282.out 3).trans rfl
      have hcz29_4 : w14.cell? ⟨gb282, 4, none⟩ = some (.int .i64 0) := (blk_cell BK282.out 4).trans rfl
      have hcz29_5 : w14.cell? ⟨gb282, 5, none⟩ = some (.int .i64 0) := (blk_cell BK282.out 5).trans rfl
      have hfz29_0 := blk_frozen BK282.out 0
      have hfz29_1 := blk_frozen BK282.out 1
      have hfz29_2 := blk_frozen BK282.out 2
      have hfz29_3 := blk_frozen BK282.out 3
      have hfz29_4 := blk_frozen BK282.out 4
      have hfz29_5 := blk_frozen BK282.out 5
      have hnb30 := NB283_279.out
      have hnc30 := NB279_283.out
      have hcz31_0 : w14.cell? ⟨gb283, 0, none⟩ = some (.int .i64 0) := (blk_cell BK283.out 0).trans rfl
      have hcz31_1 : w14.cell? ⟨gb283, 1, none⟩ = some (.bool false) := (blk_cell BK283.out 1).trans rfl
      have hcz31_2 : w14.cell? ⟨gb283, 2, none⟩ = some (.int .i64 0) := (blk_cell BK283.out 2).trans rfl
      have hcz31_3 : w14.cell? ⟨gb283, 3, none⟩ = some (.int .i64 0) := (blk_cell BK283.out 3).trans rfl
      have hcz31_4 : w14.cell? ⟨gb283, 4, none⟩ = some (.int .i64 0) := (blk_cell BK283.out 4).trans rfl
      have hcz31_5 : w14.cell? ⟨gb283, 5, none⟩ = some (.int .i64 0) := (blk_cell BK283.out 5).trans rfl
      have hfz31_0 := blk_frozen BK283.out 0
      have hfz31_1 := blk_frozen BK283.out 1
      have hfz31_2 := blk_frozen BK283.out 2
      have hfz31_3 := blk_frozen BK283.out 3
      have hfz31_4 := blk_frozen BK283.out 4
      have hfz31_5 := blk_frozen BK283.out 5
      try go_wp2
      have n0_ : Aside0 ((((((((((((((((w14.setCell ⟨gb282, 0, none⟩ (.int .i64 a0_0)).setCell ⟨gb282, 1, none⟩ (.bool a0_1)).setCell ⟨gb282, 2, none⟩ (.int .i64 a0_2)).setCell ⟨gb282, 3, none⟩ (.int .i64 a0_3)).setCell ⟨gb282, 4, none⟩ (.int .i64 a0_4)).setCell ⟨gb282, 5, none⟩ (.int .i64 a0_5)).setCell ⟨gb283, 0, none⟩ (.int .i64 a0_0)).setCell ⟨gb283, 1, none⟩ (.bool a0_1)).setCell ⟨gb283, 2, none⟩ (.int .i64 a0_2)).setCell ⟨gb283, 3, none⟩ (.int .i64 a0_3)).setCell ⟨gb283, 4, none⟩ (.int .i64 a0_4)).setCell ⟨gb283, 5, none⟩ (.int .i64 a0_5)).setCell ⟨gb282, 0, none⟩ (.int .i64 t280)).setCell ⟨gb282, 1, none⟩ (.bool true)).setCell ⟨gb283, 1, none⟩ (.bool true)).heap[gb279]? = some (.cells #[.int .i64 a0_0, .bool a0_1, .int .i64 a0_2, .int .i64 a0_3, .int .i64 a0_4, .int .i64 a0_5, .int .u64 a0_6, .int .u64 a0_7] 39 (0, 0))) := ⟨by (with_reducible repeat (first | refine blk_drewN ?_ _ | refine blk_drew ?_ | refine blk_alloc ?_ _)); refine blk_far ?_ NB279_283.out _; (with_reducible repeat (first | refine blk_drewN ?_ _ | refine blk_drew ?_ | refine blk_alloc ?_ _)); refine blk_far ?_ NB279_282.out _; (with_reducible repeat (first | refine blk_drewN ?_ _ | refine blk_drew ?_ | refine blk_alloc ?_ _)); refine blk_far ?_ NB279_282.out _; (with_reducible repeat (first | refine blk_drewN ?_ _ | refine blk_drew ?_ | refine blk_alloc ?_ _)); refine blk_far ?_ NB279_283.out _; (with_reducible repeat (first | refine blk_drewN ?_ _ | refine blk_drew ?_ | refine blk_alloc ?_ _)); refine blk_far ?_ NB279_283.out _; (with_reducible repeat (first | refine blk_drewN ?_ _ | refine blk_drew ?_ | refine blk_alloc ?_ _)); refine blk_far ?_ NB279_283.out _; (with_reducible repeat (first | refine blk_drewN ?_ _ | refine blk_drew ?_ | refine blk_alloc ?_ _)); refine blk_far ?_ NB279_283.out _; (with_reducible repeat (first | refine blk_drewN ?_ _ | refine blk_drew ?_ | refine blk_alloc ?_ _)); refine blk_far ?_ NB279_283.out _; (with_reducible repeat (first | refine blk_drewN ?_ _ | refine blk_drew ?_ | refine blk_alloc ?_ _)); refine blk_far ?_ NB279_283.out _; (with_reducible repeat (first | refine blk_drewN ?_ _ | refine blk_drew ?_ | refine blk_alloc ?_ _)); refine blk_far ?_ NB279_282.out _; (with_reducible repeat (first | refine blk_drewN ?_ _ | refine blk_drew ?_ | refine blk_alloc ?_ _)); refine blk_far ?_ NB279_282.out _; (with_reducible repeat (first | refine blk_drewN ?_ _ | refine blk_drew ?_ | refine blk_alloc ?_ _)); refine blk_far ?_ NB279_282.out _; (with_reducible repeat (first | refine blk_drewN ?_ _ | refine blk_drew ?_ | refine blk_alloc ?_ _)); refine blk_far ?_ NB279_282.out _; (with_reducible repeat (first | refine blk_drewN ?_ _ | refine blk_drew ?_ | refine blk_alloc ?_ _)); refine blk_far ?_ NB279_282.out _; (with_reducible repeat (first | refine blk_drewN ?_ _ | refine blk_drew ?_ | refine blk_alloc ?_ _)); refine blk_far ?_ NB279_282.out _; (with_reducible repeat (first | refine blk_drewN ?_ _ | refine blk_drew ?_ | refine blk_alloc ?_ _)); exact BK279.out⟩
      have n1_ : Aside0 ((((((((((((((((w14.setCell ⟨gb282, 0, none⟩ (.int .i64 a0_0)).setCell ⟨gb282, 1, none⟩ (.bool a0_1)).setCell ⟨gb282, 2, none⟩ (.int .i64 a0_2)).setCell ⟨gb282, 3, none⟩ (.int .i64 a0_3)).setCell ⟨gb282, 4, none⟩ (.int .i64 a0_4)).setCell ⟨gb282, 5, none⟩ (.int .i64 a0_5)).setCell ⟨gb283, 0, none⟩ (.int .i64 a0_0)).setCell ⟨gb283, 1, none⟩ (.bool a0_1)).setCell ⟨gb283, 2, none⟩ (.int .i64 a0_2)).setCell ⟨gb283, 3, none⟩ (.int .i64 a0_3)).setCell ⟨gb283, 4, none⟩ (.int .i64 a0_4)).setCell ⟨gb283, 5, none⟩ (.int .i64 a0_5)).setCell ⟨gb282, 0, none⟩ (.int .i64 t280)).setCell ⟨gb282, 1, none⟩ (.bool true)).setCell ⟨gb283, 1, none⟩ (.bool true)).heap[gb282]? = some (.cells #[.int .i64 t280, .bool true, .int .i64 a0_2, .int .i64 a0_3, .int .i64 a0_4, .int .i64 a0_5] 29 (0, 0))) := ⟨by (with_reducible repeat (first | refine blk_drewN ?_ _ | refine blk_drew ?_ | refine blk_alloc ?_ _)); refine blk_far ?_ NB282_283.out _; (with_reducible repeat (first | refine blk_drewN ?_ _ | refine blk_drew ?_ | refine blk_alloc ?_ _)); refine blk_put (cs := #[.int .i64 t280, .bool a0_1, .int .i64 a0_2, .int .i64 a0_3, .int .i64 a0_4, .int .i64 a0_5]) ?_ 1 _ rfl; (with_reducible repeat (first | refine blk_drewN ?_ _ | refine blk_drew ?_ | refine blk_alloc ?_ _)); refine blk_put (cs := #[.int .i64 a0_0, .bool a0_1, .int .i64 a0_2, .int .i64 a0_3, .int .i64 a0_4, .int .i64 a0_5]) ?_ 0 _ rfl; (with_reducible repeat (first | refine blk_drewN ?_ _ | refine blk_drew ?_ | refine blk_alloc ?_ _)); refine blk_far ?_ NB282_283.out _; (with_reducible repeat (first | refine blk_drewN ?_ _ | refine blk_drew ?_ | refine blk_alloc ?_ _)); refine blk_far ?_ NB282_283.out _; (with_reducible repeat (first | refine blk_drewN ?_ _ | refine blk_drew ?_ | refine blk_alloc ?_ _)); refine blk_far ?_ NB282_283.out _; (with_reducible repeat (first | refine blk_drewN ?_ _ | refine blk_drew ?_ | refine blk_alloc ?_ _)); refine blk_far ?_ NB282_283.out _; (with_reducible repeat (first | refine blk_drewN ?_ _ | refine blk_drew ?_ | refine blk_alloc ?_ _)); refine blk_far ?_ NB282_283.out _; (with_reducible repeat (first | refine blk_drewN ?_ _ | refine blk_drew ?_ | refine blk_alloc ?_ _)); refine blk_far ?_ NB282_283.out _; (with_reducible repeat (first | refine blk_drewN ?_ _ | refine blk_drew ?_ | refine blk_alloc ?_ _)); refine blk_put (cs := #[.int .i64 a0_0, .bool a0_1, .int .i64 a0_2, .int .i64 a0_3, .int .i64 a0_4, .int .i64 0]) ?_ 5 _ rfl; (with_reducible repeat (first | refine blk_drewN ?_ _ | refine blk_drew ?_ | refine blk_alloc ?_ _)); refine blk_put (cs := #[.int .i64 a0_0, .bool a0_1, .int .i64 a0_2, .int .i64 a0_3, .int .i64 0, .int .i64 0]) ?_ 4 _ rfl; (with_reducible repeat (first | refine blk_drewN ?_ _ | refine blk_drew ?_ | refine blk_alloc ?_ _)); refine blk_put (cs := #[.int .i64 a0_0, .bool a0_1, .int .i64 a0_2, .int .i64 0, .int .i64 0, .int .i64 0]) ?_ 3 _ rfl; (with_reducible repeat (first | refine blk_drewN ?_ _ | refine blk_drew ?_ | refine blk_alloc ?_ _)); refine blk_put (cs := #[.int .i64 a0_0, .bool a0_1, .int .i64 0, .int .i64 0, .int .i64 0, .int .i64 0]) ?_ 2 _ rfl; (with_reducible repeat (first | refine blk_drewN ?_ _ | refine blk_drew ?_ | refine blk_alloc ?_ _)); refine blk_put (cs := #[.int .i64 a0_0, .bool false, .int .i64 0, .int .i64 0, .int .i64 0, .int .i64 0]) ?_ 1 _ rfl; (with_reducible repeat (first | refine blk_drewN ?_ _ | refine blk_drew ?_ | refine blk_alloc ?_ _)); refine blk_put (cs := #[.int .i64 0, .bool false, .int .i64 0, .int .i64 0, .int .i64 0, .int .i64 0]) ?_ 0 _ rfl; (with_reducible repeat (first | refine blk_drewN ?_ _ | refine blk_drew ?_ | refine blk_alloc ?_ _)); exact BK282.out⟩
      have n2_ : Aside0 ((((((((((((((((w14.setCell ⟨gb282, 0, none⟩ (.int .i64 a0_0)).setCell ⟨gb282, 1, none⟩ (.bool a0_1)).setCell ⟨gb282, 2, none⟩ (.int .i64 a0_2)).setCell ⟨gb282, 3, none⟩ (.int .i64 a0_3)).setCell ⟨gb282, 4, none⟩ (.int .i64 a0_4)).setCell ⟨gb282, 5, none⟩ (.int .i64 a0_5)).setCell ⟨gb283, 0, none⟩ (.int .i64 a0_0)).setCell ⟨gb283, 1, none⟩ (.bool a0_1)).setCell ⟨gb283, 2, none⟩ (.int .i64 a0_2)).setCell ⟨gb283, 3, none⟩ (.int .i64 a0_3)).setCell ⟨gb283, 4, none⟩ (.int .i64 a0_4)).setCell ⟨gb283, 5, none⟩ (.int .i64 a0_5)).setCell ⟨gb282, 0, none⟩ (.int .i64 t280)).setCell ⟨gb282, 1, none⟩ (.bool true)).setCell ⟨gb283, 1, none⟩ (.bool true)).heap[gb283]? = some (.cells #[.int .i64 a0_0, .bool true, .int .i64 a0_2, .int .i64 a0_3, .int .i64 a0_4, .int .i64 a0_5] 29 (0, 0))) := ⟨by (with_reducible repeat (first | refine blk_drewN ?_ _ | refine blk_drew ?_ | refine blk_alloc ?_ _)); refine blk_put (cs := #[.int .i64 a0_0, .bool a0_1, .int .i64 a0_2, .int .i64 a0_3, .int .i64 a0_4, .int .i64 a0_5]) ?_ 1 _ rfl; (with_reducible repeat (first | refine blk_drewN ?_ _ | refine blk_drew ?_ | refine blk_alloc ?_ _)); refine blk_far ?_ NB283_282.out _; (with_reducible repeat (first | refine blk_drewN ?_ _ | refine blk_drew ?_ | refine blk_alloc ?_ _)); refine blk_far ?_ NB283_282.out _; (with_reducible repeat (first | refine blk_drewN ?_ _ | refine blk_drew ?_ | refine blk_alloc ?_ _)); refine blk_put (cs := #[.int .i64 a0_0, .bool a0_1, .int .i64 a0_2, .int .i64 a0_3, .int .i64 a0_4, .int .i64 0]) ?_ 5 _ rfl; (with_reducible repeat (first | refine blk_drewN ?_ _ | refine blk_drew ?_ | refine blk_alloc ?_ _)); refine blk_put (cs := #[.int .i64 a0_0, .bool a0_1, .int .i64 a0_2, .int .i64 a0_3, .int .i64 0, .int .i64 0]) ?_ 4 _ rfl; (with_reducible repeat (first | refine blk_drewN ?_ _ | refine blk_drew ?_ | refine blk_alloc ?_ _)); refine blk_put (cs := #[.int .i64 a0_0, .bool a0_1, .int .i64 a0_2, .int .i64 0, .int .i64 0, .int .i64 0]) ?_ 3 _ rfl; (with_reducible repeat (first | refine blk_drewN ?_ _ | refine blk_drew ?_ | refine blk_alloc ?_ _)); refine blk_put (cs := #[.int .i64 a0_0, .bool a0_1, .int .i64 0, .int .i64 0, .int .i64 0, .int .i64 0]) ?_ 2 _ rfl; (with_reducible repeat (first | refine blk_drewN ?_ _ | refine blk_drew ?_ | refine blk_alloc ?_ _)); refine blk_put (cs := #[.int .i64 a0_0, .bool false, .int .i64 0, .int .i64 0, .int .i64 0, .int .i64 0]) ?_ 1 _ rfl; (with_reducible repeat (first | refine blk_drewN ?_ _ | refine blk_drew ?_ | refine blk_alloc ?_ _)); refine blk_put (cs := #[.int .i64 0, .bool false, .int .i64 0, .int .i64 0, .int .i64 0, .int .i64 0]) ?_ 0 _ rfl; (with_reducible repeat (first | refine blk_drewN ?_ _ | refine blk_drew ?_ | refine blk_alloc ?_ _)); refine blk_far ?_ NB283_282.out _; (with_reducible repeat (first | refine blk_drewN ?_ _ | refine blk_drew ?_ | refine blk_alloc ?_ _)); refine blk_far ?_ NB283_282.out _; (with_reducible repeat (first | refine blk_drewN ?_ _ | refine blk_drew ?_ | refine blk_alloc ?_ _)); refine blk_far ?_ NB283_282.out _; (with_reducible repeat (first | refine blk_drewN ?_ _ | refine blk_drew ?_ | refine blk_alloc ?_ _)); refine blk_far ?_ NB283_282.out _; (with_reducible repeat (first | refine blk_drewN ?_ _ | refine blk_drew ?_ | refine blk_alloc ?_ _)); refine blk_far ?_ NB283_282.out _; (with_reducible repeat (first | refine blk_drewN ?_ _ | refine blk_drew ?_ | refine blk_alloc ?_ _)); refine blk_far ?_ NB283_282.out _; (with_reducible repeat (first | refine blk_drewN ?_ _ | refine blk_drew ?_ | refine blk_alloc ?_ _)); exact BK283.out⟩
      have n3_ : Aside0 (Below w.heap.size w (((((((((((((((w14.setCell ⟨gb282, 0, none⟩ (.int .i64 a0_0)).setCell ⟨gb282, 1, none⟩ (.bool a0_1)).setCell ⟨gb282, 2, none⟩ (.int .i64 a0_2)).setCell ⟨gb282, 3, none⟩ (.int .i64 a0_3)).setCell ⟨gb282, 4, none⟩ (.int .i64 a0_4)).setCell ⟨gb282, 5, none⟩ (.int .i64 a0_5)).setCell ⟨gb283, 0, none⟩ (.int .i64 a0_0)).setCell ⟨gb283, 1, none⟩ (.bool a0_1)).setCell ⟨gb283, 2, none⟩ (.int .i64 a0_2)).setCell ⟨gb283, 3, none⟩ (.int .i64 a0_3)).setCell ⟨gb283, 4, none⟩ (.int .i64 a0_4)).setCell ⟨gb283, 5, none⟩ (.int .i64 a0_5)).setCell ⟨gb282, 0, none⟩ (.int .i64 t280)).setCell ⟨gb282, 1, none⟩ (.bool true)).setCell ⟨gb283, 1, none⟩ (.bool true))) := ⟨by repeat (first | (with_reducible first | exact HB.out | apply below_alloc | apply pw_below_drewN | apply below_drew1 | refine below_set ?_ GE279.out | refine below_set ?_ GE282.out | refine below_set ?_ GE283.out) | exact HB.out)⟩
      (try clear BK279)
      (try clear BK282)
      (try clear BK283)
      (try clear HB)
      generalize (((((((((((((((w14.setCell ⟨gb282, 0, none⟩ (.int .i64 a0_0)).setCell ⟨gb282, 1, none⟩ (.bool a0_1)).setCell ⟨gb282, 2, none⟩ (.int .i64 a0_2)).setCell ⟨gb282, 3, none⟩ (.int .i64 a0_3)).setCell ⟨gb282, 4, none⟩ (.int .i64 a0_4)).setCell ⟨gb282, 5, none⟩ (.int .i64 a0_5)).setCell ⟨gb283, 0, none⟩ (.int .i64 a0_0)).setCell ⟨gb283, 1, none⟩ (.bool a0_1)).setCell ⟨gb283, 2, none⟩ (.int .i64 a0_2)).setCell ⟨gb283, 3, none⟩ (.int .i64 a0_3)).setCell ⟨gb283, 4, none⟩ (.int .i64 a0_4)).setCell ⟨gb283, 5, none⟩ (.int .i64 a0_5)).setCell ⟨gb282, 0, none⟩ (.int .i64 t280)).setCell ⟨gb282, 1, none⟩ (.bool true)).setCell ⟨gb283, 1, none⟩ (.bool true)) = w32 at n0_ n1_ n2_ n3_ ⊢
      have BK279 := n0_
      have BK282 := n1_
      have BK283 := n2_
      have HB := n3_
      clear n0_ n1_ n2_ n3_
      have n0_ := Aside0.mk (blk_drew BK279.out)
      have n1_ := Aside0.mk (blk_drew BK282.out)
      have n2_ := Aside0.mk (blk_drew BK283.out)
      have n3_ := Aside0.mk (below_drew1 HB.out)
      clear BK279
      clear BK282
      clear BK283
      clear HB
      have BK279 := n0_
      have BK282 := n1_
      have BK283 := n2_
      have HB := n3_
      clear n0_ n1_ n2_ n3_
      refine start_ (n := 17) (S := fun w' => w'.cell? ⟨gb282, 0, none⟩ = some (.int .i64 t280) ∧ w'.cell? ⟨gb282, 1, none⟩ = some (.bool true) ∧ w'.cell? ⟨gb282, 2, none⟩ = some (.int .i64 a0_2) ∧ w'.cell? ⟨gb282, 3, none⟩ = some (.int .i64 a0_3) ∧ w'.cell? ⟨gb282, 4, none⟩ = some (.int .i64 a0_4) ∧ w'.cell? ⟨gb282, 5, none⟩ = some (.int .i64 a0_5) ∧ w'.cell? ⟨gb279, 0, none⟩ = some (.int .i64 a0_0) ∧ w'.cell? ⟨gb279, 1, none⟩ = some (.bool a0_1) ∧ w'.cell? ⟨gb279, 2, none⟩ = some (.int .i64 a0_2) ∧ w'.cell? ⟨gb279, 3, none⟩ = some (.int .i64 a0_3) ∧ w'.cell? ⟨gb279, 4, none⟩ = some (.int .i64 a0_4) ∧ w'.cell? ⟨gb279, 5, none⟩ = some (.int .i64 a0_5) ∧ w'.cell? ⟨gb279, 6, none⟩ = some (.int .u64 a0_6) ∧ w'.cell? ⟨gb279, 7, none⟩ = some (.int .u64 a0_7) ∧ w'.cell? ⟨gb283, 0, none⟩ = some (.int .i64 a0_0) ∧ w'.cell? ⟨gb283, 1, none⟩ = some (.bool true) ∧ w'.cell? ⟨gb283, 2, none⟩ = some (.int .i64 a0_2) ∧ w'.cell? ⟨gb283, 3, none⟩ = some (.int .i64 a0_3) ∧ w'.cell? ⟨gb283, 4, none⟩ = some (.int .i64 a0_4) ∧ w'.cell? ⟨gb283, 5, none⟩ = some (.int .i64 a0_5)) (ds := []) #[false, false, false, false, false, false, false, false, false, false, false, false, false, false, false, false, false] (by kernel_rfl) rfl rfl ⟨(blk_cell BK282.out 0).trans rfl, (blk_cell BK282.out 1).trans rfl, (blk_cell BK282.out 2).trans rfl, (blk_cell BK282.out 3).trans rfl, (blk_cell BK282.out 4).trans rfl, (blk_cell BK282.out 5).trans rfl, (blk_cell BK279.out 0).trans rfl, (blk_cell BK279.out 1).trans rfl, (blk_cell BK279.out 2).trans rfl, (blk_cell BK279.out 3).trans rfl, (blk_cell BK279.out 4).trans rfl, (blk_cell BK279.out 5).trans rfl, (blk_cell BK279.out 6).trans rfl, (blk_cell BK279.out 7).trans rfl, (blk_cell BK283.out 0).trans rfl, (blk_cell BK283.out 1).trans rfl, (blk_cell BK283.out 2).trans rfl, (blk_cell BK283.out 3).trans rfl, (blk_cell BK283.out 4).trans rfl, (blk_cell BK283.out 5).trans rfl⟩ (fun hHeld => ?_); refine with_tabW slotcodelaw07_CondMirror.tab6 slotcodelaw07_CondMirror.bits6 (fun HT_ HW_ => ?_)
      generalize w32.drew = w33 at BK279 BK282 BK283 HB hHeld ⊢
      refine one_ (i := 0) (N := some 25) #[true, false, false, false, false, false, false, false, false, false, false, false, false, false, false, false, false] rfl rfl (one_of HT_.out (by kernel_rfl)) (by decide) (fun K hK => ?_)
      refine goes_ Tryd.func30 (by kernel_rfl) rfl #[] (by rfl) rfl rfl (by (try simp only [List.map_toArray, List.map_cons, List.map_nil]); first | done | rfl | (simp only [List.length_drop, List.length_take]; rfl)) ?_
      with_reducible refine (slotcodelaw07_alive.calls  true _ A4.out (G_at hG (by repeat (first | (with_reducible first | exact HB.out | apply below_alloc | apply pw_below_drewN | apply below_drew1 | refine below_set ?_ GE279.out | refine below_set ?_ GE282.out | refine below_set ?_ GE283.out) | exact HB.out)))).mono ?_
      rintro e w34 ⟨rfl, hb⟩
      refine ⟨_, rfl, ?_⟩
      have n0_ := Aside0.mk (blk_below (g := gb279) (o := .cells #[.int .i64 a0_0, .bool a0_1, .int .i64 a0_2, .int .i64 a0_3, .int .i64 a0_4, .int .i64 a0_5, .int .u64 a0_6, .int .u64 a0_7] 39 (0, 0)) (by (with_reducible repeat (first | refine blk_drewN ?_ _ | refine blk_drew ?_ | refine blk_alloc ?_ _)); exact BK279.out) hb)
      have n1_ := Aside0.mk (blk_below (g := gb282) (o := .cells #[.int .i64 t280, .bool true, .int .i64 a0_2, .int .i64 a0_3, .int .i64 a0_4, .int .i64 a0_5] 29 (0, 0)) (by (with_reducible repeat (first | refine blk_drewN ?_ _ | refine blk_drew ?_ | refine blk_alloc ?_ _)); exact BK282.out) hb)
      have n2_ := Aside0.mk (blk_below (g := gb283) (o := .cells #[.int .i64 a0_0, .bool true, .int .i64 a0_2, .int .i64 a0_3, .int .i64 a0_4, .int .i64 a0_5] 29 (0, 0)) (by (with_reducible repeat (first | refine blk_drewN ?_ _ | refine blk_drew ?_ | refine blk_alloc ?_ _)); exact BK283.out) hb)
      have n3_ := Aside0.mk (below_step (by repeat (first | (with_reducible first | exact HB.out | apply below_alloc | apply pw_below_drewN | apply below_drew1 | refine below_set ?_ GE279.out | refine below_set ?_ GE282.out | refine below_set ?_ GE283.out) | exact HB.out)) hb)
      clear BK279
      clear BK282
      clear BK283
      clear HB
      have BK279 := n0_
      have BK282 := n1_
      have BK283 := n2_
      have HB := n3_
      clear n0_ n1_ n2_ n3_
      (try clear hb)
      (try clear hb2)
      (try clear hk)
      (try clear hi)
      refine hK.out _ _ ⟨(blk_cell BK282.out 0).trans rfl, (blk_cell BK282.out 1).trans rfl, (blk_cell BK282.out 2).trans rfl, (blk_cell BK282.out 3).trans rfl, (blk_cell BK282.out 4).trans rfl, (blk_cell BK282.out 5).trans rfl, (blk_cell BK279.out 0).trans rfl, (blk_cell BK279.out 1).trans rfl, (blk_cell BK279.out 2).trans rfl, (blk_cell BK279.out 3).trans rfl, (blk_cell BK279.out 4).trans rfl, (blk_cell BK279.out 5).trans rfl, (blk_cell BK279.out 6).trans rfl, (blk_cell BK279.out 7).trans rfl, (blk_cell BK283.out 0).trans rfl, (blk_cell BK283.out 1).trans rfl, (blk_cell BK283.out 2).trans rfl, (blk_cell BK283.out 3).trans rfl, (blk_cell BK283.out 4).trans rfl, (blk_cell BK283.out 5).trans rfl⟩ (fun hHeld => ?_)
      clear hK K
      refine norm_ (a' := ?_) ?_ ?_
      rotate_left
      · show Act.put _ (some 25) _ = _
        simp only [Act.put, List.setIfInBounds_toArray, List.set_cons_zero, List.set_cons_succ, i64_w, i32_w]
        rfl
      refine pure_ (i := 1) (N := some 26) (v := ?_) (a' := ?_) #[true, true, false, false, false, false, false, false, false, false, false, false, false, false, false, false, false] rfl rfl (any_of HT_.out (by kernel_rfl)) (fun _ _ _ h => h) (Or.inl ⟨by rfl, ?_⟩) ?_ ?_
      rotate_left
      · intro w'
        go_simp
        with_reducible rfl
      rotate_left
      · simp only [Act.put, List.setIfInBounds_toArray, List.set_cons_zero, List.set_cons_succ, i64_w, i32_w]
        rfl
      refine pure_ (i := 3) (N := some 28) (v := ?_) (a' := ?_) #[true, true, false, true, false, false, false, false, false, false, false, false, false, false, false, false, false] rfl rfl (any_of HT_.out (by kernel_rfl)) (fun _ _ _ h => h) (Or.inl ⟨by rfl, ?_⟩) ?_ ?_
      rotate_left
      · intro w'
        go_simp
        with_reducible rfl
      rotate_left
      · simp only [Act.put, List.setIfInBounds_toArray, List.set_cons_zero, List.set_cons_succ, i64_w, i32_w]
        rfl
      refine pure_ (i := 5) (N := some 30) (v := ?_) (a' := ?_) #[true, true, false, true, false, true, false, false, false, false, false, false, false, false, false, false, false] rfl rfl (any_of HT_.out (by kernel_rfl)) (fun _ _ _ h => h) (Or.inl ⟨by rfl, ?_⟩) ?_ ?_
      rotate_left
      · intro w'
        go_simp
        with_reducible rfl
      rotate_left
      · simp only [Act.put, List.setIfInBounds_toArray, List.set_cons_zero, List.set_cons_succ, i64_w, i32_w]
        rfl
      refine pure_ (i := 9) (N := some 34) (v := ?_) (a' := ?_) #[true, true, false, true, false, true, false, false, false, true, false, false, false, false, false, false, false] rfl rfl (any_of HT_.out (by kernel_rfl)) (fun _ _ _ h => h) (Or.inl ⟨by rfl, ?_⟩) ?_ ?_
      rotate_left
      · intro w'
        go_simp
        with_reducible rfl
      rotate_left
      · simp only [Act.put, List.setIfInBounds_toArray, List.set_cons_zero, List.set_cons_succ, i64_w, i32_w]
        rfl
      refine pure_ (i := 11) (N := some 36) (v := ?_) (a' := ?_) #[true, true, false, true, false, true, false, false, false, true, false, true, false, false, false, false, false] rfl rfl (any_of HT_.out (by kernel_rfl)) (fun _ _ _ h => h) (Or.inl ⟨by rfl, ?_⟩) ?_ ?_
      rotate_left
      · intro w'
        go_simp
        with_reducible rfl
      rotate_left
      · simp only [Act.put, List.setIfInBounds_toArray, List.set_cons_zero, List.set_cons_succ, i64_w, i32_w]
        rfl
      refine take_ (i := 2) (N := some 27) (v := ?_) (a' := ?_) #[true, true, true, true, false, true, false, false, false, true, false, true, false, false, false, false, false] rfl rfl (take_ofW HT_.out HW_.out (by kernel_rfl)) (fun _ _ _ h => h) (Or.inl ⟨by rfl, ?_⟩) hHeld ?_ ?_
      rotate_left
      · rintro w' ⟨s0, s1, s2, s3, s4, s5, s6, s7, s8, s9, s10, s11, s12, s13, s14, s15, s16, s17, s18, s19⟩
        go_simp
        with_reducible rfl
      rotate_left
      · simp only [Act.put, List.setIfInBounds_toArray, List.set_cons_zero, List.set_cons_succ, i64_w, i32_w]
        rfl
      refine take_ (i := 4) (N := some 29) (v := ?_) (a' := ?_) #[true, true, true, true, true, true, false, false, false, true, false, true, false, false, false, false, false] rfl rfl (take_ofW HT_.out HW_.out (by kernel_rfl)) (fun _ _ _ h => h) (Or.inl ⟨by rfl, ?_⟩) hHeld ?_ ?_
      rotate_left
      · rintro w' ⟨s0, s1, s2, s3, s4, s5, s6, s7, s8, s9, s10, s11, s12, s13, s14, s15, s16, s17, s18, s19⟩
        go_simp
        with_reducible rfl
      rotate_left
      · simp only [Act.put, List.setIfInBounds_toArray, List.set_cons_zero, List.set_cons_succ, i64_w, i32_w]
        rfl
      refine take_ (i := 6) (N := some 31) (v := ?_) (a' := ?_) #[true, true, true, true, true, true, true, false, false, true, false, true, false, false, false, false, false] rfl rfl (take_ofW HT_.out HW_.out (by kernel_rfl)) (fun _ _ _ h => h) (Or.inl ⟨by rfl, ?_⟩) hHeld ?_ ?_
      rotate_left
      · rintro w' ⟨s0, s1, s2, s3, s4, s5, s6, s7, s8, s9, s10, s11, s12, s13, s14, s15, s16, s17, s18, s19⟩
        go_simp
        with_reducible rfl
      rotate_left
      · simp only [Act.put, List.setIfInBounds_toArray, List.set_cons_zero, List.set_cons_succ, i64_w, i32_w]
        rfl
      refine take_ (i := 8) (N := some 33) (v := ?_) (a' := ?_) #[true, true, true, true, true, true, true, false, true, true, false, true, false, false, false, false, false] rfl rfl (take_ofW HT_.out HW_.out (by kernel_rfl)) (fun _ _ _ h => h) (Or.inl ⟨by rfl, ?_⟩) hHeld ?_ ?_
      rotate_left
      · rintro w' ⟨s0, s1, s2, s3, s4, s5, s6, s7, s8, s9, s10, s11, s12, s13, s14, s15, s16, s17, s18, s19⟩
        go_simp
        with_reducible rfl
      rotate_left
      · simp only [Act.put, List.setIfInBounds_toArray, List.set_cons_zero, List.set_cons_succ, i64_w, i32_w]
        rfl
      refine take_ (i := 10) (N := some 35) (v := ?_) (a' := ?_) #[true, true, true, true, true, true, true, false, true, true, true, true, false, false, false, false, false] rfl rfl (take_ofW HT_.out HW_.out (by kernel_rfl)) (fun _ _ _ h => h) (Or.inl ⟨by rfl, ?_⟩) hHeld ?_ ?_
      rotate_left
      · rintro w' ⟨s0, s1, s2, s3, s4, s5, s6, s7, s8, s9, s10, s11, s12, s13, s14, s15, s16, s17, s18, s19⟩
        go_simp
        with_reducible rfl
      rotate_left
      · simp only [Act.put, List.setIfInBounds_toArray, List.set_cons_zero, List.set_cons_succ, i64_w, i32_w]
        rfl
      refine take_ (i := 12) (N := some 37) (v := ?_) (a' := ?_) #[true, true, true, true, true, true, true, false, true, true, true, true, true, false, false, false, false] rfl rfl (take_ofW HT_.out HW_.out (by kernel_rfl)) (fun _ _ _ h => h) (Or.inl ⟨by rfl, ?_⟩) hHeld ?_ ?_
      rotate_left
      · rintro w' ⟨s0, s1, s2, s3, s4, s5, s6, s7, s8, s9, s10, s11, s12, s13, s14, s15, s16, s17, s18, s19⟩
        go_simp
        with_reducible rfl
      rotate_left
      · simp only [Act.put, List.setIfInBounds_toArray, List.set_cons_zero, List.set_cons_succ, i64_w, i32_w]
        rfl
      refine one_ (i := 7) (N := some 32) #[true, true, true, true, true, true, true, true, true, true, true, true, true, false, false, false, false] rfl rfl (one_of HT_.out (by kernel_rfl)) (by decide) (fun K hK => ?_)
      refine goes_ Tryd.func31 (by kernel_rfl) rfl #[.agg #[.int .i64 t280, .bool true, .int .i64 a0_2, .int .i64 a0_3, .int .i64 a0_4, .int .i64 a0_5], .int .u64 a0_7, .int .u64 a0_6] (by rfl) rfl rfl (by (try simp only [List.map_toArray, List.map_cons, List.map_nil]); first | done | rfl | (simp only [List.length_drop, List.length_take]; rfl)) ?_
      with_reducible refine (cond_Holds.calls t280 true a0_2 a0_3 a0_4 a0_5 a0_7 a0_6 t285 _ A6.out (G_at hG (by repeat (first | (with_reducible first | exact HB.out | apply below_alloc | apply pw_below_drewN | apply below_drew1 | refine below_set ?_ GE279.out | refine below_set ?_ GE282.out | refine below_set ?_ GE283.out) | exact HB.out)))).mono ?_
      rintro e w35 ⟨rfl, hb⟩
      refine ⟨_, rfl, ?_⟩
      have n0_ := Aside0.mk (blk_below (g := gb279) (o := .cells #[.int .i64 a0_0, .bool a0_1, .int .i64 a0_2, .int .i64 a0_3, .int .i64 a0_4, .int .i64 a0_5, .int .u64 a0_6, .int .u64 a0_7] 39 (0, 0)) (by (with_reducible repeat (first | refine blk_drewN ?_ _ | refine blk_drew ?_ | refine blk_alloc ?_ _)); exact BK279.out) hb)
      have n1_ := Aside0.mk (blk_below (g := gb282) (o := .cells #[.int .i64 t280, .bool true, .int .i64 a0_2, .int .i64 a0_3, .int .i64 a0_4, .int .i64 a0_5] 29 (0, 0)) (by (with_reducible repeat (first | refine blk_drewN ?_ _ | refine blk_drew ?_ | refine blk_alloc ?_ _)); exact BK282.out) hb)
      have n2_ := Aside0.mk (blk_below (g := gb283) (o := .cells #[.int .i64 a0_0, .bool true, .int .i64 a0_2, .int .i64 a0_3, .int .i64 a0_4, .int .i64 a0_5] 29 (0, 0)) (by (with_reducible repeat (first | refine blk_drewN ?_ _ | refine blk_drew ?_ | refine blk_alloc ?_ _)); exact BK283.out) hb)
      have n3_ := Aside0.mk (below_step (by repeat (first | (with_reducible first | exact HB.out | apply below_alloc | apply pw_below_drewN | apply below_drew1 | refine below_set ?_ GE279.out | refine below_set ?_ GE282.out | refine below_set ?_ GE283.out) | exact HB.out)) hb)
      clear BK279
      clear BK282
      clear BK283
      clear HB
      have BK279 := n0_
      have BK282 := n1_
      have BK283 := n2_
      have HB := n3_
      clear n0_ n1_ n2_ n3_
      (try clear hb)
      (try clear hb2)
      (try clear hk)
      (try clear hi)
      refine hK.out _ _ ⟨(blk_cell BK282.out 0).trans rfl, (blk_cell BK282.out 1).trans rfl, (blk_cell BK282.out 2).trans rfl, (blk_cell BK282.out 3).trans rfl, (blk_cell BK282.out 4).trans rfl, (blk_cell BK282.out 5).trans rfl, (blk_cell BK279.out 0).trans rfl, (blk_cell BK279.out 1).trans rfl, (blk_cell BK279.out 2).trans rfl, (blk_cell BK279.out 3).trans rfl, (blk_cell BK279.out 4).trans rfl, (blk_cell BK279.out 5).trans rfl, (blk_cell BK279.out 6).trans rfl, (blk_cell BK279.out 7).trans rfl, (blk_cell BK283.out 0).trans rfl, (blk_cell BK283.out 1).trans rfl, (blk_cell BK283.out 2).trans rfl, (blk_cell BK283.out 3).trans rfl, (blk_cell BK283.out 4).trans rfl, (blk_cell BK283.out 5).trans rfl⟩ (fun hHeld => ?_)
      clear hK K
      refine norm_ (a' := ?_) ?_ ?_
      rotate_left
      · show Act.put _ (some 32) _ = _
        simp only [Act.put, List.setIfInBounds_toArray, List.set_cons_zero, List.set_cons_succ, i64_w, i32_w]
        rfl
      refine one_ (i := 13) (N := some 38) #[true, true, true, true, true, true, true, true, true, true, true, true, true, true, false, false, false] rfl rfl (one_of HT_.out (by kernel_rfl)) (by decide) (fun K hK => ?_)
      refine goes_ Tryd.func31 (by kernel_rfl) rfl #[.agg #[.int .i64 a0_0, .bool true, .int .i64 a0_2, .int .i64 a0_3, .int .i64 a0_4, .int .i64 a0_5], .int .u64 a0_6, .int .u64 a0_7] (by rfl) rfl rfl (by (try simp only [List.map_toArray, List.map_cons, List.map_nil]); first | done | rfl | (simp only [List.length_drop, List.length_take]; rfl)) ?_
      with_reducible refine (cond_Holds.calls a0_0 true a0_2 a0_3 a0_4 a0_5 a0_6 a0_7 t286 _ A7.out (G_at hG (by repeat (first | (with_reducible first | exact HB.out | apply below_alloc | apply pw_below_drewN | apply below_drew1 | refine below_set ?_ GE279.out | refine below_set ?_ GE282.out | refine below_set ?_ GE283.out) | exact HB.out)))).mono ?_
      rintro e w36 ⟨rfl, hb⟩
      refine ⟨_, rfl, ?_⟩
      have n0_ := Aside0.mk (blk_below (g := gb279) (o := .cells #[.int .i64 a0_0, .bool a0_1, .int .i64 a0_2, .int .i64 a0_3, .int .i64 a0_4, .int .i64 a0_5, .int .u64 a0_6, .int .u64 a0_7] 39 (0, 0)) (by (with_reducible repeat (first | refine blk_drewN ?_ _ | refine blk_drew ?_ | refine blk_alloc ?_ _)); exact BK279.out) hb)
      have n1_ := Aside0.mk (blk_below (g := gb282) (o := .cells #[.int .i64 t280, .bool true, .int .i64 a0_2, .int .i64 a0_3, .int .i64 a0_4, .int .i64 a0_5] 29 (0, 0)) (by (with_reducible repeat (first | refine blk_drewN ?_ _ | refine blk_drew ?_ | refine blk_alloc ?_ _)); exact BK282.out) hb)
      have n2_ := Aside0.mk (blk_below (g := gb283) (o := .cells #[.int .i64 a0_0, .bool true, .int .i64 a0_2, .int .i64 a0_3, .int .i64 a0_4, .int .i64 a0_5] 29 (0, 0)) (by (with_reducible repeat (first | refine blk_drewN ?_ _ | refine blk_drew ?_ | refine blk_alloc ?_ _)); exact BK283.out) hb)
      have n3_ := Aside0.mk (below_step (by repeat (first | (with_reducible first | exact HB.out | apply below_alloc | apply pw_below_drewN | apply below_drew1 | refine below_set ?_ GE279.out | refine below_set ?_ GE282.out | refine below_set ?_ GE283.out) | exact HB.out)) hb)
      clear BK279
      clear BK282
      clear BK283
      clear HB
      have BK279 := n0_
      have BK282 := n1_
      have BK283 := n2_
      have HB := n3_
      clear n0_ n1_ n2_ n3_
      (try clear hb)
      (try clear hb2)
      (try clear hk)
      (try clear hi)
      refine hK.out _ _ ⟨(blk_cell BK282.out 0).trans rfl, (blk_cell BK282.out 1).trans rfl, (blk_cell BK282.out 2).trans rfl, (blk_cell BK282.out 3).trans rfl, (blk_cell BK282.out 4).trans rfl, (blk_cell BK282.out 5).trans rfl, (blk_cell BK279.out 0).trans rfl, (blk_cell BK279.out 1).trans rfl, (blk_cell BK279.out 2).trans rfl, (blk_cell BK279.out 3).trans rfl, (blk_cell BK279.out 4).trans rfl, (blk_cell BK279.out 5).trans rfl, (blk_cell BK279.out 6).trans rfl, (blk_cell BK279.out 7).trans rfl, (blk_cell BK283.out 0).trans rfl, (blk_cell BK283.out 1).trans rfl, (blk_cell BK283.out 2).trans rfl, (blk_cell BK283.out 3).trans rfl, (blk_cell BK283.out 4).trans rfl, (blk_cell BK283.out 5).trans rfl⟩ (fun hHeld => ?_)
      clear hK K
      refine norm_ (a' := ?_) ?_ ?_
      rotate_left
      · show Act.put _ (some 38) _ = _
        simp only [Act.put, List.setIfInBounds_toArray, List.set_cons_zero, List.set_cons_succ, i64_w, i32_w]
        rfl
      refine pure_ (i := 14) (N := some 39) (v := ?_) (a' := ?_) #[true, true, true, true, true, true, true, true, true, true, true, true, true, true, true, false, false] rfl rfl (any_of HT_.out (by kernel_rfl)) (fun _ _ _ h => h) (Or.inl ⟨by rfl, ?_⟩) ?_ ?_
      rotate_left
      · intro w'
        go_simp
        with_reducible rfl
      rotate_left
      · simp only [Act.put, List.setIfInBounds_toArray, List.set_cons_zero, List.set_cons_succ, i64_w, i32_w]
        rfl
      refine pure_ (i := 15) (N := some 40) (v := ?_) (a' := ?_) #[true, true, true, true, true, true, true, true, true, true, true, true, true, true, true, true, false] rfl rfl (any_of HT_.out (by kernel_rfl)) (fun _ _ _ h => h) (Or.inl ⟨by rfl, ?_⟩) ?_ ?_
      rotate_left
      · intro w'
        go_simp
        with_reducible rfl
      rotate_left
      · simp only [Act.put, List.setIfInBounds_toArray, List.set_cons_zero, List.set_cons_succ, i64_w, i32_w]
        rfl
      refine pure_ (i := 16) (N := some 2) (v := ?_) (a' := ?_) #[true, true, true, true, true, true, true, true, true, true, true, true, true, true, true, true, true] rfl rfl (any_of HT_.out (by kernel_rfl)) (fun _ _ _ h => h) (Or.inl ⟨by rfl, ?_⟩) ?_ ?_
      rotate_left
      · intro w'
        go_simp
        with_reducible rfl
      rotate_left
      · simp only [Act.put, List.setIfInBounds_toArray, List.set_cons_zero, List.set_cons_succ, i64_w, i32_w]
        rfl
      refine done_ (done_of HT_.out (by kernel_rfl)) ?_
      try go_wp2
      go_ret
      exact ⟨by first | rfl | (simp [errW_none, errW_some] <;> rfl) | (simp [*, errW_none, errW_some] <;> rfl), by repeat (first | (with_reducible first | exact HB.out | apply below_alloc | apply pw_below_drewN | apply below_drew1 | refine below_set ?_ GE279.out | refine below_set ?_ GE282.out | refine below_set ?_ GE283.out) | exact HB.out)⟩
    · replace c5 := Bool.eq_false_iff.mpr c5
      subst c5
      have H1 : (some false) = some r := by rw [if_neg (show ¬ (false = true) by decide)] at H; exact H
      clear H
      have H := H1
      clear H1
      obtain rfl := Option.some.inj H
      go_enter Tryd.func12, Tryd.ntmps12
      try go_wp2_with (first | ((with_reducible refine gate_dst (N := 1) rfl ?_); refine box_event ?hg (N := 1) ?hd (cs := #[.int .i64 a0_0, .bool a0_1, .int .i64 a0_2, .int .i64 a0_3, .int .i64 a0_4, .int .i64 a0_5, .int .u64 a0_6, .int .u64 a0_7]) (t := 39) ?hr ?_; (case hd => rfl); (case hg => rfl); (case hr => first | (go_simp; done) | (go_simp; rfl)); intro gb279 hg w37 hbox hb; have n0_ := Aside0.mk (below_step (by repeat (first | (with_reducible first | exact HB.out | apply below_alloc | apply pw_below_drewN | apply below_drew1) | exact HB.out)) hb); have n1_ := Aside0.mk (hbox); have n2_ := Aside0.mk ((by rw [hg]; exact (below_size (by repeat (first | (with_reducible first | exact HB.out | apply below_alloc | apply pw_below_drewN | apply below_drew1) | exact HB.out))) : w.heap.size ≤ gb279)); have n3_ := Aside0.mk ((by rw [hg]; exact (below_size (by repeat (first | (with_reducible first | exact HB.out | apply below_alloc | apply pw_below_drewN | apply below_drew1) | exact HB.out))) : w.heap.size ≤ gb279)); clear HB; have HB := n0_; have BK279 := n1_; have GW279 := n2_; have GE279 := n3_; clear n0_ n1_ n2_ n3_; clear hb hbox hg; have hcz38_0 : w37.cell? ⟨gb279, 0, none⟩ = some (.int .i64 a0_0) := (blk_cell BK279.out 0).trans rfl; have hcz38_1 : w37.cell? ⟨gb279, 1, none⟩ = some (.bool a0_1) := (blk_cell BK279.out 1).trans rfl; have hcz38_2 : w37.cell? ⟨gb279, 2, none⟩ = some (.int .i64 a0_2) := (blk_cell BK279.out 2).trans rfl; have hcz38_3 : w37.cell? ⟨gb279, 3, none⟩ = some (.int .i64 a0_3) := (blk_cell BK279.out 3).trans rfl; have hcz38_4 : w37.cell? ⟨gb279, 4, none⟩ = some (.int .i64 a0_4) := (blk_cell BK279.out 4).trans rfl; have hcz38_5 : w37.cell? ⟨gb279, 5, none⟩ = some (.int .i64 a0_5) := (blk_cell BK279.out 5).trans rfl; have hcz38_6 : w37.cell? ⟨gb279, 6, none⟩ = some (.int .u64 a0_6) := (blk_cell BK279.out 6).trans rfl; have hcz38_7 : w37.cell? ⟨gb279, 7, none⟩ = some (.int .u64 a0_7) := (blk_cell BK279.out 7).trans rfl; have hfz38_0 := blk_frozen BK279.out 0; have hfz38_1 := blk_frozen BK279.out 1; have hfz38_2 := blk_frozen BK279.out 2; have hfz38_3 := blk_frozen BK279.out 3; have hfz38_4 := blk_frozen BK279.out 4; have hfz38_5 := blk_frozen BK279.out 5; have hfz38_6 := blk_frozen BK279.out 6; have hfz38_7 := blk_frozen BK279.out 7) | ((with_reducible refine gate_callee (f := 34) rfl ?_); refine goesL_ (some 11) rfl rfl Tryd.func34 (by kernel_rfl) rfl #[.int .i64 a0_0] rfl (by (try simp only [List.map_toArray, List.map_cons, List.map_nil]); first | done | rfl | (simp only [List.length_drop, List.length_take]; rfl)) ?_; (with_reducible refine (cond_Mirror.calls a0_0 t280 true _ A2.out (G_at hG (by repeat (first | (with_reducible first | exact HB.out | apply below_alloc | apply pw_below_drewN | apply below_drew1 | refine below_set ?_ GE279.out | refine below_set ?_ GE282.out | refine below_set ?_ GE283.out) | exact HB.out)))).mono ?_); rintro e w39 ⟨rfl, hb⟩; refine ⟨_, rfl, ?_⟩; have n0_ := Aside0.mk (blk_below (g := gb279) (o := .cells #[.int .i64 a0_0, .bool a0_1, .int .i64 a0_2, .int .i64 a0_3, .int .i64 a0_4, .int .i64 a0_5, .int .u64 a0_6, .int .u64 a0_7] 39 (0, 0)) (by (with_reducible repeat (first | refine blk_drewN ?_ _ | refine blk_drew ?_ | refine blk_alloc ?_ _)); exact BK279.out) hb); have n1_ := Aside0.mk (below_step (by repeat (first | (with_reducible first | exact HB.out | apply below_alloc | apply pw_below_drewN | apply below_drew1 | refine below_set ?_ GE279.out) | exact HB.out)) hb); clear BK279; clear HB; have BK279 := n0_; have HB := n1_; clear n0_ n1_; (try clear hb); (try clear hb2); (try clear hk); (try clear hi)))
      have n0_ := Aside0.mk (blk_drew BK279.out)
      have n1_ := Aside0.mk (below_drew1 HB.out)
      clear BK279
      clear HB
      have BK279 := n0_
      have HB := n1_
      clear n0_ n1_
      refine start_ (n := 8) (S := fun w' => w'.cell? ⟨gb279, 0, none⟩ = some (.int .i64 a0_0) ∧ w'.cell? ⟨gb279, 1, none⟩ = some (.bool a0_1) ∧ w'.cell? ⟨gb279, 2, none⟩ = some (.int .i64 a0_2) ∧ w'.cell? ⟨gb279, 3, none⟩ = some (.int .i64 a0_3) ∧ w'.cell? ⟨gb279, 4, none⟩ = some (.int .i64 a0_4) ∧ w'.cell? ⟨gb279, 5, none⟩ = some (.int .i64 a0_5) ∧ w'.cell? ⟨gb279, 6, none⟩ = some (.int .u64 a0_6) ∧ w'.cell? ⟨gb279, 7, none⟩ = some (.int .u64 a0_7)) (ds := []) #[false, false, false, false, false, false, false, false] (by kernel_rfl) rfl rfl ⟨(blk_cell BK279.out 0).trans rfl, (blk_cell BK279.out 1).trans rfl, (blk_cell BK279.out 2).trans rfl, (blk_cell BK279.out 3).trans rfl, (blk_cell BK279.out 4).trans rfl, (blk_cell BK279.out 5).trans rfl, (blk_cell BK279.out 6).trans rfl, (blk_cell BK279.out 7).trans rfl⟩ (fun hHeld => ?_); refine with_tabW slotcodelaw07_CondMirror.tab4 slotcodelaw07_CondMirror.bits4 (fun HT_ HW_ => ?_)
      generalize w39.drew = w40 at BK279 HB hHeld ⊢
      refine pure_ (i := 0) (N := some 17) (v := ?_) (a' := ?_) #[true, false, false, false, false, false, false, false] rfl rfl (any_of HT_.out (by kernel_rfl)) (fun _ _ _ h => h) (Or.inl ⟨by rfl, ?_⟩) ?_ ?_
      rotate_left
      · intro w'
        go_simp
        with_reducible rfl
      rotate_left
      · simp only [Act.put, List.setIfInBounds_toArray, List.set_cons_zero, List.set_cons_succ, i64_w, i32_w]
        rfl
      refine pure_ (i := 2) (N := some 19) (v := ?_) (a' := ?_) #[true, false, true, false, false, false, false, false] rfl rfl (any_of HT_.out (by kernel_rfl)) (fun _ _ _ h => h) (Or.inl ⟨by rfl, ?_⟩) ?_ ?_
      rotate_left
      · intro w'
        go_simp
        with_reducible rfl
      rotate_left
      · simp only [Act.put, List.setIfInBounds_toArray, List.set_cons_zero, List.set_cons_succ, i64_w, i32_w]
        rfl
      refine take_ (i := 1) (N := some 18) (v := ?_) (a' := ?_) #[true, true, true, false, false, false, false, false] rfl rfl (take_ofW HT_.out HW_.out (by kernel_rfl)) (fun _ _ _ h => h) (Or.inl ⟨by rfl, ?_⟩) hHeld ?_ ?_
      rotate_left
      · rintro w' ⟨s0, s1, s2, s3, s4, s5, s6, s7⟩
        go_simp
        with_reducible rfl
      rotate_left
      · simp only [Act.put, List.setIfInBounds_toArray, List.set_cons_zero, List.set_cons_succ, i64_w, i32_w]
        rfl
      refine take_ (i := 3) (N := some 20) (v := ?_) (a' := ?_) #[true, true, true, true, false, false, false, false] rfl rfl (take_ofW HT_.out HW_.out (by kernel_rfl)) (fun _ _ _ h => h) (Or.inl ⟨by rfl, ?_⟩) hHeld ?_ ?_
      rotate_left
      · rintro w' ⟨s0, s1, s2, s3, s4, s5, s6, s7⟩
        go_simp
        with_reducible rfl
      rotate_left
      · simp only [Act.put, List.setIfInBounds_toArray, List.set_cons_zero, List.set_cons_succ, i64_w, i32_w]
        rfl
      refine join_ (σ := Nat × Nat) 2 #[true, true, true, true, true, true, false, false] (fun s_ => [(5, .pointer (some ⟨s_.1, 0, none⟩)), (6, .pointer (some ⟨s_.2, 0, none⟩))]) (fun s_ w' => (w'.cell? ⟨gb279, 0, none⟩ = some (.int .i64 a0_0) ∧ w'.cell? ⟨gb279, 1, none⟩ = some (.bool a0_1) ∧ w'.cell? ⟨gb279, 2, none⟩ = some (.int .i64 a0_2) ∧ w'.cell? ⟨gb279, 3, none⟩ = some (.int .i64 a0_3) ∧ w'.cell? ⟨gb279, 4, none⟩ = some (.int .i64 a0_4) ∧ w'.cell? ⟨gb279, 5, none⟩ = some (.int .i64 a0_5) ∧ w'.cell? ⟨gb279, 6, none⟩ = some (.int .u64 a0_6) ∧ w'.cell? ⟨gb279, 7, none⟩ = some (.int .u64 a0_7)) ∧ (w'.heap[gb279]? = some (.cells #[.int .i64 a0_0, .bool a0_1, .int .i64 a0_2, .int .i64 a0_3, .int .i64 a0_4, .int .i64 a0_5, .int .u64 a0_6, .int .u64 a0_7] 39 (0, 0))) ∧ (w'.heap[s_.1]? = some (.cells #[.int .i64 0, .bool false, .int .i64 0, .int .i64 0, .int .i64 0, .int .i64 0] 29 (0, 0))) ∧ (w'.heap[s_.2]? = some (.cells #[.int .i64 0, .bool false, .int .i64 0, .int .i64 0, .int .i64 0, .int .i64 0] 29 (0, 0))) ∧ (w.heap.size ≤ s_.1) ∧ (w.heap.size ≤ s_.1) ∧ (gb279 ≠ s_.1) ∧ (s_.1 ≠ gb279) ∧ (s_.2 ≠ s_.1) ∧ (s_.1 ≠ s_.2) ∧ (w.heap.size ≤ s_.2) ∧ (w.heap.size ≤ s_.2) ∧ (gb279 ≠ s_.2) ∧ (s_.2 ≠ gb279) ∧ (Below w.heap.size w w')) ?_ ?_
      rotate_left
      · intro hCont
        refine two_ (i := 4) (j := 5) (Ni := some 5) (Nj := some 6) #[true, true, true, true, true, false, false, false] #[true, true, true, true, false, true, false, false] rfl rfl rfl rfl (two_of HT_.out (by kernel_rfl)) (by decide) (by decide) (fun K hK => ?_) (fun K hK => ?_)
        · skip
          refine box_step ?hg (N := 5) ?hd (cs := #[.int .i64 0, .bool false, .int .i64 0, .int .i64 0, .int .i64 0, .int .i64 0]) (t := 29) ?hr ?_; (case hd => rfl); (case hg => rfl); (case hr => first | (go_simp; done) | (go_simp; rfl))
          intro gb282 hg w41 hbox hb
          have n0_ := Aside0.mk (blk_below (g := gb279) (o := .cells #[.int .i64 a0_0, .bool a0_1, .int .i64 a0_2, .int .i64 a0_3, .int .i64 a0_4, .int .i64 a0_5, .int .u64 a0_6, .int .u64 a0_7] 39 (0, 0)) (by (with_reducible repeat (first | refine blk_drewN ?_ _ | refine blk_drew ?_ | refine blk_alloc ?_ _)); exact BK279.out) hb)
          have n1_ := Aside0.mk (below_step (by repeat (first | (with_reducible first | exact HB.out | apply below_alloc | apply pw_below_drewN | apply below_drew1 | refine below_set ?_ GE279.out) | exact HB.out)) hb)
          have n2_ := Aside0.mk (hbox)
          have n3_ := Aside0.mk ((by rw [hg]; exact (below_size (by repeat (first | (with_reducible first | exact HB.out | apply below_alloc | apply pw_below_drewN | apply below_drew1 | refine below_set ?_ GE279.out) | exact HB.out))) : w.heap.size ≤ gb282))
          have n4_ := Aside0.mk ((by rw [hg]; exact (below_size (by repeat (first | (with_reducible first | exact HB.out | apply below_alloc | apply pw_below_drewN | apply below_drew1 | refine below_set ?_ GE279.out) | exact HB.out))) : w.heap.size ≤ gb282))
          have n5_ := Aside0.mk ((by rw [hg]; exact Nat.ne_of_lt (blk_lt (g := gb279) (o := .cells #[.int .i64 a0_0, .bool a0_1, .int .i64 a0_2, .int .i64 a0_3, .int .i64 a0_4, .int .i64 a0_5, .int .u64 a0_6, .int .u64 a0_7] 39 (0, 0)) (by (with_reducible repeat (first | refine blk_drewN ?_ _ | refine blk_drew ?_ | refine blk_alloc ?_ _)); exact BK279.out)) : gb279 ≠ gb282))
          have n6_ := Aside0.mk ((by rw [hg]; exact Nat.ne_of_gt (blk_lt (g := gb279) (o := .cells #[.int .i64 a0_0, .bool a0_1, .int .i64 a0_2, .int .i64 a0_3, .int .i64 a0_4, .int .i64 a0_5, .int .u64 a0_6, .int .u64 a0_7] 39 (0, 0)) (by (with_reducible repeat (first | refine blk_drewN ?_ _ | refine blk_drew ?_ | refine blk_alloc ?_ _)); exact BK279.out)) : gb282 ≠ gb279))
          clear BK279
          clear HB
          have BK279 := n0_
          have HB := n1_
          have BK282 := n2_
          have GW282 := n3_
          have GE282 := n4_
          have NB279_282 := n5_
          have NB282_279 := n6_
          clear n0_ n1_ n2_ n3_ n4_ n5_ n6_
          clear hb hbox hg
          refine hK.out _ _ ⟨(blk_cell BK279.out 0).trans rfl, (blk_cell BK279.out 1).trans rfl, (blk_cell BK279.out 2).trans rfl, (blk_cell BK279.out 3).trans rfl, (blk_cell BK279.out 4).trans rfl, (blk_cell BK279.out 5).trans rfl, (blk_cell BK279.out 6).trans rfl, (blk_cell BK279.out 7).trans rfl⟩ (fun hHeld => ?_)
          clear hK K
          refine norm_ (a' := ?_) ?_ ?_
          rotate_left
          · show Act.put _ (some 5) _ = _
            simp only [Act.put, List.setIfInBounds_toArray, List.set_cons_zero, List.set_cons_succ, i64_w, i32_w]
            rfl
          refine one_ (i := 5) (N := some 6) #[true, true, true, true, true, true, false, false] rfl rfl (one_of HT_.out (by kernel_rfl)) (by decide) (fun K hK => ?_)
          refine box_step ?hg (N := 6) ?hd (cs := #[.int .i64 0, .bool false, .int .i64 0, .int .i64 0, .int .i64 0, .int .i64 0]) (t := 29) ?hr ?_; (case hd => rfl); (case hg => rfl); (case hr => first | (go_simp; done) | (go_simp; rfl))
          intro gb283 hg w42 hbox hb
          have n0_ := Aside0.mk (blk_below (g := gb279) (o := .cells #[.int .i64 a0_0, .bool a0_1, .int .i64 a0_2, .int .i64 a0_3, .int .i64 a0_4, .int .i64 a0_5, .int .u64 a0_6, .int .u64 a0_7] 39 (0, 0)) (by (with_reducible repeat (first | refine blk_drewN ?_ _ | refine blk_drew ?_ | refine blk_alloc ?_ _)); exact BK279.out) hb)
          have n1_ := Aside0.mk (blk_below (g := gb282) (o := .cells #[.int .i64 0, .bool false, .int .i64 0, .int .i64 0, .int .i64 0, .int .i64 0] 29 (0, 0)) (by (with_reducible repeat (first | refine blk_drewN ?_ _ | refine blk_drew ?_ | refine blk_alloc ?_ _)); exact BK282.out) hb)
          have n2_ := Aside0.mk (below_step (by repeat (first | (with_reducible first | exact HB.out | apply below_alloc | apply pw_below_drewN | apply below_drew1 | refine below_set ?_ GE279.out | refine below_set ?_ GE282.out) | exact HB.out)) hb)
          have n3_ := Aside0.mk (hbox)
          have n4_ := Aside0.mk ((by rw [hg]; exact (below_size (by repeat (first | (with_reducible first | exact HB.out | apply below_alloc | apply pw_below_drewN | apply below_drew1 | refine below_set ?_ GE279.out | refine below_set ?_ GE282.out) | exact HB.out))) : w.heap.size ≤ gb283))
          have n5_ := Aside0.mk ((by rw [hg]; exact (below_size (by repeat (first | (with_reducible first | exact HB.out | apply below_alloc | apply pw_below_drewN | apply below_drew1 | refine below_set ?_ GE279.out | refine below_set ?_ GE282.out) | exact HB.out))) : w.heap.size ≤ gb283))
          have n6_ := Aside0.mk ((by rw [hg]; exact Nat.ne_of_lt (blk_lt (g := gb279) (o := .cells #[.int .i64 a0_0, .bool a0_1, .int .i64 a0_2, .int .i64 a0_3, .int .i64 a0_4, .int .i64 a0_5, .int .u64 a0_6, .int .u64 a0_7] 39 (0, 0)) (by (with_reducible repeat (first | refine blk_drewN ?_ _ | refine blk_drew ?_ | refine blk_alloc ?_ _)); exact BK279.out)) : gb279 ≠ gb283))
          have n7_ := Aside0.mk ((by rw [hg]; exact Nat.ne_of_gt (blk_lt (g := gb279) (o := .cells #[.int .i64 a0_0, .bool a0_1, .int .i64 a0_2, .int .i64 a0_3, .int .i64 a0_4, .int .i64 a0_5, .int .u64 a0_6, .int .u64 a0_7] 39 (0, 0)) (by (with_reducible repeat (first | refine blk_drewN ?_ _ | refine blk_drew ?_ | refine blk_alloc ?_ _)); exact BK279.out)) : gb283 ≠ gb279))
          have n8_ := Aside0.mk ((by rw [hg]; exact Nat.ne_of_lt (blk_lt (g := gb282) (o := .cells #[.int .i64 0, .bool false, .int .i64 0, .int .i64 0, .int .i64 0, .int .i64 0] 29 (0, 0)) (by (with_reducible repeat (first | refine blk_drewN ?_ _ | refine blk_drew ?_ | refine blk_alloc ?_ _)); exact BK282.out)) : gb282 ≠ gb283))
          have n9_ := Aside0.mk ((by rw [hg]; exact Nat.ne_of_gt (blk_lt (g := gb282) (o := .cells #[.int .i64 0, .bool false, .int .i64 0, .int .i64 0, .int .i64 0, .int .i64 0] 29 (0, 0)) (by (with_reducible repeat (first | refine blk_drewN ?_ _ | refine blk_drew ?_ | refine blk_alloc ?_ _)); exact BK282.out)) : gb283 ≠ gb282))
          clear BK279
          clear BK282
          clear HB
          have BK279 := n0_
          have BK282 := n1_
          have HB := n2_
          have BK283 := n3_
          have GW283 := n4_
          have GE283 := n5_
          have NB279_283 := n6_
          have NB283_279 := n7_
          have NB282_283 := n8_
          have NB283_282 := n9_
          clear n0_ n1_ n2_ n3_ n4_ n5_ n6_ n7_ n8_ n9_
          clear hb hbox hg
          refine hK.out _ _ ⟨(blk_cell BK279.out 0).trans rfl, (blk_cell BK279.out 1).trans rfl, (blk_cell BK279.out 2).trans rfl, (blk_cell BK279.out 3).trans rfl, (blk_cell BK279.out 4).trans rfl, (blk_cell BK279.out 5).trans rfl, (blk_cell BK279.out 6).trans rfl, (blk_cell BK279.out 7).trans rfl⟩ (fun hHeld => ?_)
          clear hK K
          refine norm_ (a' := ?_) ?_ ?_
          rotate_left
          · show Act.put _ (some 6) _ = _
            simp only [Act.put, List.setIfInBounds_toArray, List.set_cons_zero, List.set_cons_succ, i64_w, i32_w]
            rfl
          exact norm_ (by simp only [putAll, Act.put, List.setIfInBounds_toArray, List.set_cons_zero, List.set_cons_succ]) (hCont (gb282, gb283) _ ⟨hHeld, (by (with_reducible repeat (first | refine blk_drewN ?_ _ | refine blk_drew ?_ | refine blk_alloc ?_ _)); exact BK279.out), (by (with_reducible repeat (first | refine blk_drewN ?_ _ | refine blk_drew ?_ | refine blk_alloc ?_ _)); exact BK282.out), (by (with_reducible repeat (first | refine blk_drewN ?_ _ | refine blk_drew ?_ | refine blk_alloc ?_ _)); exact BK283.out), GW282.out, GE282.out, NB279_282.out, NB282_279.out, NB283_282.out, NB282_283.out, GW283.out, GE283.out, NB279_283.out, NB283_279.out, (by repeat (first | (with_reducible first | exact HB.out | apply below_alloc | apply pw_below_drewN | apply below_drew1 | refine below_set ?_ GE279.out | refine below_set ?_ GE282.out | refine below_set ?_ GE283.out) | exact HB.out))⟩)
        · skip
          refine box_step ?hg (N := 6) ?hd (cs := #[.int .i64 0, .bool false, .int .i64 0, .int .i64 0, .int .i64 0, .int .i64 0]) (t := 29) ?hr ?_; (case hd => rfl); (case hg => rfl); (case hr => first | (go_simp; done) | (go_simp; rfl))
          intro gb283 hg w41 hbox hb
          have n0_ := Aside0.mk (blk_below (g := gb279) (o := .cells #[.int .i64 a0_0, .bool a0_1, .int .i64 a0_2, .int .i64 a0_3, .int .i64 a0_4, .int .i64 a0_5, .int .u64 a0_6, .int .u64 a0_7] 39 (0, 0)) (by (with_reducible repeat (first | refine blk_drewN ?_ _ | refine blk_drew ?_ | refine blk_alloc ?_ _)); exact BK279.out) hb)
          have n1_ := Aside0.mk (below_step (by repeat (first | (with_reducible first | exact HB.out | apply below_alloc | apply pw_below_drewN | apply below_drew1 | refine below_set ?_ GE279.out) | exact HB.out)) hb)
          have n2_ := Aside0.mk (hbox)
          have n3_ := Aside0.mk ((by rw [hg]; exact (below_size (by repeat (first | (with_reducible first | exact HB.out | apply below_alloc | apply pw_below_drewN | apply below_drew1 | refine below_set ?_ GE279.out) | exact HB.out))) : w.heap.size ≤ gb283))
          have n4_ := Aside0.mk ((by rw [hg]; exact (below_size (by repeat (first | (with_reducible first | exact HB.out | apply below_alloc | apply pw_below_drewN | apply below_drew1 | refine below_set ?_ GE279.out) | exact HB.out))) : w.heap.size ≤ gb283))
          have n5_ := Aside0.mk ((by rw [hg]; exact Nat.ne_of_lt (blk_lt (g := gb279) (o := .cells #[.int .i64 a0_0, .bool a0_1, .int .i64 a0_2, .int .i64 a0_3, .int .i64 a0_4, .int .i64 a0_5, .int .u64 a0_6, .int .u64 a0_7] 39 (0, 0)) (by (with_reducible repeat (first | refine blk_drewN ?_ _ | refine blk_drew ?_ | refine blk_alloc ?_ _)); exact BK279.out)) : gb279 ≠ gb283))
          have n6_ := Aside0.mk ((by rw [hg]; exact Nat.ne_of_gt (blk_lt (g := gb279) (o := .cells #[.int .i64 a0_0, .bool a0_1, .int .i64 a0_2, .int .i64 a0_3, .int .i64 a0_4, .int .i64 a0_5, .int .u64 a0_6, .int .u64 a0_7] 39 (0, 0)) (by (with_reducible repeat (first | refine blk_drewN ?_ _ | refine blk_drew ?_ | refine blk_alloc ?_ _)); exact BK279.out)) : gb283 ≠ gb279))
          clear BK279
          clear HB
          have BK279 := n0_
          have HB := n1_
          have BK283 := n2_
          have GW283 := n3_
          have GE283 := n4_
          have NB279_283 := n5_
          have NB283_279 := n6_
          clear n0_ n1_ n2_ n3_ n4_ n5_ n6_
          clear hb hbox hg
          refine hK.out _ _ ⟨(blk_cell BK279.out 0).trans rfl, (blk_cell BK279.out 1).trans rfl, (blk_cell BK279.out 2).trans rfl, (blk_cell BK279.out 3).trans rfl, (blk_cell BK279.out 4).trans rfl, (blk_cell BK279.out 5).trans rfl, (blk_cell BK279.out 6).trans rfl, (blk_cell BK279.out 7).trans rfl⟩ (fun hHeld => ?_)
          clear hK K
          refine norm_ (a' := ?_) ?_ ?_
          rotate_left
          · show Act.put _ (some 6) _ = _
            simp only [Act.put, List.setIfInBounds_toArray, List.set_cons_zero, List.set_cons_succ, i64_w, i32_w]
            rfl
          refine one_ (i := 4) (N := some 5) #[true, true, true, true, true, true, false, false] rfl rfl (one_of HT_.out (by kernel_rfl)) (by decide) (fun K hK => ?_)
          refine box_step ?hg (N := 5) ?hd (cs := #[.int .i64 0, .bool false, .int .i64 0, .int .i64 0, .int .i64 0, .int .i64 0]) (t := 29) ?hr ?_; (case hd => rfl); (case hg => rfl); (case hr => first | (go_simp; done) | (go_simp; rfl))
          intro gb282 hg w42 hbox hb
          have n0_ := Aside0.mk (blk_below (g := gb279) (o := .cells #[.int .i64 a0_0, .bool a0_1, .int .i64 a0_2, .int .i64 a0_3, .int .i64 a0_4, .int .i64 a0_5, .int .u64 a0_6, .int .u64 a0_7] 39 (0, 0)) (by (with_reducible repeat (first | refine blk_drewN ?_ _ | refine blk_drew ?_ | refine blk_alloc ?_ _)); exact BK279.out) hb)
          have n1_ := Aside0.mk (blk_below (g := gb283) (o := .cells #[.int .i64 0, .bool false, .int .i64 0, .int .i64 0, .int .i64 0, .int .i64 0] 29 (0, 0)) (by (with_reducible repeat (first | refine blk_drewN ?_ _ | refine blk_drew ?_ | refine blk_alloc ?_ _)); exact BK283.out) hb)
          have n2_ := Aside0.mk (below_step (by repeat (first | (with_reducible first | exact HB.out | apply below_alloc | apply pw_below_drewN | apply below_drew1 | refine below_set ?_ GE279.out | refine below_set ?_ GE283.out) | exact HB.out)) hb)
          have n3_ := Aside0.mk (hbox)
          have n4_ := Aside0.mk ((by rw [hg]; exact (below_size (by repeat (first | (with_reducible first | exact HB.out | apply below_alloc | apply pw_below_drewN | apply below_drew1 | refine below_set ?_ GE279.out | refine below_set ?_ GE283.out) | exact HB.out))) : w.heap.size ≤ gb282))
          have n5_ := Aside0.mk ((by rw [hg]; exact (below_size (by repeat (first | (with_reducible first | exact HB.out | apply below_alloc | apply pw_below_drewN | apply below_drew1 | refine below_set ?_ GE279.out | refine below_set ?_ GE283.out) | exact HB.out))) : w.heap.size ≤ gb282))
          have n6_ := Aside0.mk ((by rw [hg]; exact Nat.ne_of_lt (blk_lt (g := gb279) (o := .cells #[.int .i64 a0_0, .bool a0_1, .int .i64 a0_2, .int .i64 a0_3, .int .i64 a0_4, .int .i64 a0_5, .int .u64 a0_6, .int .u64 a0_7] 39 (0, 0)) (by (with_reducible repeat (first | refine blk_drewN ?_ _ | refine blk_drew ?_ | refine blk_alloc ?_ _)); exact BK279.out)) : gb279 ≠ gb282))
          have n7_ := Aside0.mk ((by rw [hg]; exact Nat.ne_of_gt (blk_lt (g := gb279) (o := .cells #[.int .i64 a0_0, .bool a0_1, .int .i64 a0_2, .int .i64 a0_3, .int .i64 a0_4, .int .i64 a0_5, .int .u64 a0_6, .int .u64 a0_7] 39 (0, 0)) (by (with_reducible repeat (first | refine blk_drewN ?_ _ | refine blk_drew ?_ | refine blk_alloc ?_ _)); exact BK279.out)) : gb282 ≠ gb279))
          have n8_ := Aside0.mk ((by rw [hg]; exact Nat.ne_of_lt (blk_lt (g := gb283) (o := .cells #[.int .i64 0, .bool false, .int .i64 0, .int .i64 0, .int .i64 0, .int .i64 0] 29 (0, 0)) (by (with_reducible repeat (first | refine blk_drewN ?_ _ | refine blk_drew ?_ | refine blk_alloc ?_ _)); exact BK283.out)) : gb283 ≠ gb282))
          have n9_ := Aside0.mk ((by rw [hg]; exact Nat.ne_of_gt (blk_lt (g := gb283) (o := .cells #[.int .i64 0, .bool false, .int .i64 0, .int .i64 0, .int .i64 0, .int .i64 0] 29 (0, 0)) (by (with_reducible repeat (first | refine blk_drewN ?_ _ | refine blk_drew ?_ | refine blk_alloc ?_ _)); exact BK283.out)) : gb282 ≠ gb283))
          clear BK279
          clear BK283
          clear HB
          have BK279 := n0_
          have BK283 := n1_
          have HB := n2_
          have BK282 := n3_
          have GW282 := n4_
          have GE282 := n5_
          have NB279_282 := n6_
          have NB282_279 := n7_
          have NB283_282 := n8_
          have NB282_283 := n9_
          clear n0_ n1_ n2_ n3_ n4_ n5_ n6_ n7_ n8_ n9_
          clear hb hbox hg
          refine hK.out _ _ ⟨(blk_cell BK279.out 0).trans rfl, (blk_cell BK279.out 1).trans rfl, (blk_cell BK279.out 2).trans rfl, (blk_cell BK279.out 3).trans rfl, (blk_cell BK279.out 4).trans rfl, (blk_cell BK279.out 5).trans rfl, (blk_cell BK279.out 6).trans rfl, (blk_cell BK279.out 7).trans rfl⟩ (fun hHeld => ?_)
          clear hK K
          refine norm_ (a' := ?_) ?_ ?_
          rotate_left
          · show Act.put _ (some 5) _ = _
            simp only [Act.put, List.setIfInBounds_toArray, List.set_cons_zero, List.set_cons_succ, i64_w, i32_w]
            rfl
          exact norm_ (by simp only [putAll, Act.put, List.setIfInBounds_toArray, List.set_cons_zero, List.set_cons_succ]) (hCont (gb282, gb283) _ ⟨hHeld, (by (with_reducible repeat (first | refine blk_drewN ?_ _ | refine blk_drew ?_ | refine blk_alloc ?_ _)); exact BK279.out), (by (with_reducible repeat (first | refine blk_drewN ?_ _ | refine blk_drew ?_ | refine blk_alloc ?_ _)); exact BK282.out), (by (with_reducible repeat (first | refine blk_drewN ?_ _ | refine blk_drew ?_ | refine blk_alloc ?_ _)); exact BK283.out), GW282.out, GE282.out, NB279_282.out, NB282_279.out, NB283_282.out, NB282_283.out, GW283.out, GE283.out, NB279_283.out, NB283_279.out, (by repeat (first | (with_reducible first | exact HB.out | apply below_alloc | apply pw_below_drewN | apply below_drew1 | refine below_set ?_ GE279.out | refine below_set ?_ GE283.out | refine below_set ?_ GE282.out) | exact HB.out))⟩)
      rintro ⟨gb282, gb283⟩ w43 ⟨hS_, h0_, h1_, h2_, h3_, h4_, h5_, h6_, h7_, h8_, h9_, h10_, h11_, h12_, h13_⟩
      have n0_ : Aside0 (w43.heap[gb279]? = some (.cells #[.int .i64 a0_0, .bool a0_1, .int .i64 a0_2, .int .i64 a0_3, .int .i64 a0_4, .int .i64 a0_5, .int .u64 a0_6, .int .u64 a0_7] 39 (0, 0))) := ⟨h0_⟩
      have n1_ : Aside0 (w43.heap[gb282]? = some (.cells #[.int .i64 0, .bool false, .int .i64 0, .int .i64 0, .int .i64 0, .int .i64 0] 29 (0, 0))) := ⟨h1_⟩
      have n2_ : Aside0 (w43.heap[gb283]? = some (.cells #[.int .i64 0, .bool false, .int .i64 0, .int .i64 0, .int .i64 0, .int .i64 0] 29 (0, 0))) := ⟨h2_⟩
      have n3_ : Aside0 (w.heap.size ≤ gb282) := ⟨h3_⟩
      have n4_ : Aside0 (w.heap.size ≤ gb282) := ⟨h4_⟩
      have n5_ : Aside0 (gb279 ≠ gb282) := ⟨h5_⟩
      have n6_ : Aside0 (gb282 ≠ gb279) := ⟨h6_⟩
      have n7_ : Aside0 (gb283 ≠ gb282) := ⟨h7_⟩
      have n8_ : Aside0 (gb282 ≠ gb283) := ⟨h8_⟩
      have n9_ : Aside0 (w.heap.size ≤ gb283) := ⟨h9_⟩
      have n10_ : Aside0 (w.heap.size ≤ gb283) := ⟨h10_⟩
      have n11_ : Aside0 (gb279 ≠ gb283) := ⟨h11_⟩
      have n12_ : Aside0 (gb283 ≠ gb279) := ⟨h12_⟩
      have n13_ : Aside0 (Below w.heap.size w w43) := ⟨h13_⟩
      clear BK279
      clear HB
      clear h0_ h1_ h2_ h3_ h4_ h5_ h6_ h7_ h8_ h9_ h10_ h11_ h12_ h13_
      have BK279 := n0_
      have BK282 := n1_
      have BK283 := n2_
      have GW282 := n3_
      have GE282 := n4_
      have NB279_282 := n5_
      have NB282_279 := n6_
      have NB283_282 := n7_
      have NB282_283 := n8_
      have GW283 := n9_
      have GE283 := n10_
      have NB279_283 := n11_
      have NB283_279 := n12_
      have HB := n13_
      clear n0_ n1_ n2_ n3_ n4_ n5_ n6_ n7_ n8_ n9_ n10_ n11_ n12_ n13_
      have hHeld : w43.cell? ⟨gb279, 0, none⟩ = some (.int .i64 a0_0) ∧ w43.cell? ⟨gb279, 1, none⟩ = some (.bool a0_1) ∧ w43.cell? ⟨gb279, 2, none⟩ = some (.int .i64 a0_2) ∧ w43.cell? ⟨gb279, 3, none⟩ = some (.int .i64 a0_3) ∧ w43.cell? ⟨gb279, 4, none⟩ = some (.int .i64 a0_4) ∧ w43.cell? ⟨gb279, 5, none⟩ = some (.int .i64 a0_5) ∧ w43.cell? ⟨gb279, 6, none⟩ = some (.int .u64 a0_6) ∧ w43.cell? ⟨gb279, 7, none⟩ = some (.int .u64 a0_7) := hS_
      refine norm_ (a' := ?_) ?_ ?_
      rotate_left
      · simp only [putAll, Act.put, List.setIfInBounds_toArray, List.set_cons_zero, List.set_cons_succ]
        rfl
      refine one_ (i := 6) (N := none) #[true, true, true, true, true, true, true, false] rfl rfl (one_of HT_.out (by kernel_rfl)) (by decide) (fun K hK => ?_)
      have hs44 : w43.cell? ⟨gb282, 0, none⟩ = some (.int .i64 0) := (blk_cell BK282.out 0).trans rfl
      have hfs44 := blk_frozen BK282.out 0
      have hns44_0 := NB279_282.out
      have hns44_2 := NB283_282.out
      have hms44_0 := NB282_279.out
      have hms44_2 := NB282_283.out
      have hs45 : w43.cell? ⟨gb282, 1, none⟩ = some (.bool false) := (blk_cell BK282.out 1).trans rfl
      have hfs45 := blk_frozen BK282.out 1
      have hns45_0 := NB279_282.out
      have hns45_2 := NB283_282.out
      have hms45_0 := NB282_279.out
      have hms45_2 := NB282_283.out
      have hs46 : w43.cell? ⟨gb282, 2, none⟩ = some (.int .i64 0) := (blk_cell BK282.out 2).trans rfl
      have hfs46 := blk_frozen BK282.out 2
      have hns46_0 := NB279_282.out
      have hns46_2 := NB283_282.out
      have hms46_0 := NB282_279.out
      have hms46_2 := NB282_283.out
      have hs47 : w43.cell? ⟨gb282, 3, none⟩ = some (.int .i64 0) := (blk_cell BK282.out 3).trans rfl
      have hfs47 := blk_frozen BK282.out 3
      have hns47_0 := NB279_282.out
      have hns47_2 := NB283_282.out
      have hms47_0 := NB282_279.out
      have hms47_2 := NB282_283.out
      have hs48 : w43.cell? ⟨gb282, 4, none⟩ = some (.int .i64 0) := (blk_cell BK282.out 4).trans rfl
      have hfs48 := blk_frozen BK282.out 4
      have hns48_0 := NB279_282.out
      have hns48_2 := NB283_282.out
      have hms48_0 := NB282_279.out
      have hms48_2 := NB282_283.out
      have hs49 : w43.cell? ⟨gb282, 5, none⟩ = some (.int .i64 0) := (blk_cell BK282.out 5).trans rfl
      have hfs49 := blk_frozen BK282.out 5
      have hns49_0 := NB279_282.out
      have hns49_2 := NB283_282.out
      have hms49_0 := NB282_279.out
      have hms49_2 := NB282_283.out
      refine skip_ (w1 := ?_) (by rfl) rfl ?_ ?_
      rotate_left
      · go_simp
        rfl
      refine hK.out _ _ ⟨((cell_far (p := ⟨gb282, _, none⟩) NB279_282.out _).trans (((cell_far (p := ⟨gb282, _, none⟩) NB279_282.out _).trans (((cell_far (p := ⟨gb282, _, none⟩) NB279_282.out _).trans (((cell_far (p := ⟨gb282, _, none⟩) NB279_282.out _).trans (((cell_far (p := ⟨gb282, _, none⟩) NB279_282.out _).trans (((cell_far (p := ⟨gb282, _, none⟩) NB279_282.out _).trans (hHeld.1)))))))))))), ((cell_far (p := ⟨gb282, _, none⟩) NB279_282.out _).trans (((cell_far (p := ⟨gb282, _, none⟩) NB279_282.out _).trans (((cell_far (p := ⟨gb282, _, none⟩) NB279_282.out _).trans (((cell_far (p := ⟨gb282, _, none⟩) NB279_282.out _).trans (((cell_far (p := ⟨gb282, _, none⟩) NB279_282.out _).trans (((cell_far (p := ⟨gb282, _, none⟩) NB279_282.out _).trans (hHeld.2.1)))))))))))), ((cell_far (p := ⟨gb282, _, none⟩) NB279_282.out _).trans (((cell_far (p := ⟨gb282, _, none⟩) NB279_282.out _).trans (((cell_far (p := ⟨gb282, _, none⟩) NB279_282.out _).trans (((cell_far (p := ⟨gb282, _, none⟩) NB279_282.out _).trans (((cell_far (p := ⟨gb282, _, none⟩) NB279_282.out _).trans (((cell_far (p := ⟨gb282, _, none⟩) NB279_282.out _).trans (hHeld.2.2.1)))))))))))), ((cell_far (p := ⟨gb282, _, none⟩) NB279_282.out _).trans (((cell_far (p := ⟨gb282, _, none⟩) NB279_282.out _).trans (((cell_far (p := ⟨gb282, _, none⟩) NB279_282.out _).trans (((cell_far (p := ⟨gb282, _, none⟩) NB279_282.out _).trans (((cell_far (p := ⟨gb282, _, none⟩) NB279_282.out _).trans (((cell_far (p := ⟨gb282, _, none⟩) NB279_282.out _).trans (hHeld.2.2.2.1)))))))))))), ((cell_far (p := ⟨gb282, _, none⟩) NB279_282.out _).trans (((cell_far (p := ⟨gb282, _, none⟩) NB279_282.out _).trans (((cell_far (p := ⟨gb282, _, none⟩) NB279_282.out _).trans (((cell_far (p := ⟨gb282, _, none⟩) NB279_282.out _).trans (((cell_far (p := ⟨gb282, _, none⟩) NB279_282.out _).trans (((cell_far (p := ⟨gb282, _, none⟩) NB279_282.out _).trans (hHeld.2.2.2.2.1)))))))))))), ((cell_far (p := ⟨gb282, _, none⟩) NB279_282.out _).trans (((cell_far (p := ⟨gb282, _, none⟩) NB279_282.out _).trans (((cell_far (p := ⟨gb282, _, none⟩) NB279_282.out _).trans (((cell_far (p := ⟨gb282, _, none⟩) NB279_282.out _).trans (((cell_far (p := ⟨gb282, _, none⟩) NB279_282.out _).trans (((cell_far (p := ⟨gb282, _, none⟩) NB279_282.out _).trans (hHeld.2.2.2.2.2.1)))))))))))), ((cell_far (p := ⟨gb282, _, none⟩) NB279_282.out _).trans (((cell_far (p := ⟨gb282, _, none⟩) NB279_282.out _).trans (((cell_far (p := ⟨gb282, _, none⟩) NB279_282.out _).trans (((cell_far (p := ⟨gb282, _, none⟩) NB279_282.out _).trans (((cell_far (p := ⟨gb282, _, none⟩) NB279_282.out _).trans (((cell_far (p := ⟨gb282, _, none⟩) NB279_282.out _).trans (hHeld.2.2.2.2.2.2.1)))))))))))), ((cell_far (p := ⟨gb282, _, none⟩) NB279_282.out _).trans (((cell_far (p := ⟨gb282, _, none⟩) NB279_282.out _).trans (((cell_far (p := ⟨gb282, _, none⟩) NB279_282.out _).trans (((cell_far (p := ⟨gb282, _, none⟩) NB279_282.out _).trans (((cell_far (p := ⟨gb282, _, none⟩) NB279_282.out _).trans (((cell_far (p := ⟨gb282, _, none⟩) NB279_282.out _).trans (hHeld.2.2.2.2.2.2.2))))))))))))⟩ (fun hHeld => ?_)
      clear hK K
      refine one_ (i := 7) (N := none) #[true, true, true, true, true, true, true, true] rfl rfl (one_of HT_.out (by kernel_rfl)) (by decide) (fun K hK => ?_)
      have hs50 : w43.cell? ⟨gb283, 0, none⟩ = some (.int .i64 0) := (blk_cell BK283.out 0).trans rfl
      have hfs50 := blk_frozen BK283.out 0
      have hns50_0 := NB279_283.out
      have hns50_1 := NB282_283.out
      have hms50_0 := NB283_279.out
      have hms50_1 := NB283_282.out
      have hs51 : w43.cell? ⟨gb283, 1, none⟩ = some (.bool false) := (blk_cell BK283.out 1).trans rfl
      have hfs51 := blk_frozen BK283.out 1
      have hns51_0 := NB279_283.out
      have hns51_1 := NB282_283.out
      have hms51_0 := NB283_279.out
      have hms51_1 := NB283_282.out
      have hs52 : w43.cell? ⟨gb283, 2, none⟩ = some (.int .i64 0) := (blk_cell BK283.out 2).trans rfl
      have hfs52 := blk_frozen BK283.out 2
      have hns52_0 := NB279_283.out
      have hns52_1 := NB282_283.out
      have hms52_0 := NB283_279.out
      have hms52_1 := NB283_282.out
      have hs53 : w43.cell? ⟨gb283, 3, none⟩ = some (.int .i64 0) := (blk_cell BK283.out 3).trans rfl
      have hfs53 := blk_frozen BK283.out 3
      have hns53_0 := NB279_283.out
      have hns53_1 := NB282_283.out
      have hms53_0 := NB283_279.out
      have hms53_1 := NB283_282.out
      have hs54 : w43.cell? ⟨gb283, 4, none⟩ = some (.int .i64 0) := (blk_cell BK283.out 4).trans rfl
      have hfs54 := blk_frozen BK283.out 4
      have hns54_0 := NB279_283.out
      have hns54_1 := NB282_283.out
      have hms54_0 := NB283_279.out
      have hms54_1 := NB283_282.out
      have hs55 : w43.cell? ⟨gb283, 5, none⟩ = some (.int .i64 0) := (blk_cell BK283.out 5).trans rfl
      have hfs55 := blk_frozen BK283.out 5
      have hns55_0 := NB279_283.out
      have hns55_1 := NB282_283.out
      have hms55_0 := NB283_279.out
      have hms55_1 := NB283_282.out
      refine skip_ (w1 := ?_) (by rfl) rfl ?_ ?_
      rotate_left
      · go_simp
        rfl
      refine hK.out _ _ ⟨((cell_far (p := ⟨gb283, _, none⟩) NB279_283.out _).trans (((cell_far (p := ⟨gb283, _, none⟩) NB279_283.out _).trans (((cell_far (p := ⟨gb283, _, none⟩) NB279_283.out _).trans (((cell_far (p := ⟨gb283, _, none⟩) NB279_283.out _).trans (((cell_far (p := ⟨gb283, _, none⟩) NB279_283.out _).trans (((cell_far (p := ⟨gb283, _, none⟩) NB279_283.out _).trans (hHeld.1)))))))))))), ((cell_far (p := ⟨gb283, _, none⟩) NB279_283.out _).trans (((cell_far (p := ⟨gb283, _, none⟩) NB279_283.out _).trans (((cell_far (p := ⟨gb283, _, none⟩) NB279_283.out _).trans (((cell_far (p := ⟨gb283, _, none⟩) NB279_283.out _).trans (((cell_far (p := ⟨gb283, _, none⟩) NB279_283.out _).trans (((cell_far (p := ⟨gb283, _, none⟩) NB279_283.out _).trans (hHeld.2.1)))))))))))), ((cell_far (p := ⟨gb283, _, none⟩) NB279_283.out _).trans (((cell_far (p := ⟨gb283, _, none⟩) NB279_283.out _).trans (((cell_far (p := ⟨gb283, _, none⟩) NB279_283.out _).trans (((cell_far (p := ⟨gb283, _, none⟩) NB279_283.out _).trans (((cell_far (p := ⟨gb283, _, none⟩) NB279_283.out _).trans (((cell_far (p := ⟨gb283, _, none⟩) NB279_283.out _).trans (hHeld.2.2.1)))))))))))), ((cell_far (p := ⟨gb283, _, none⟩) NB279_283.out _).trans (((cell_far (p := ⟨gb283, _, none⟩) NB279_283.out _).trans (((cell_far (p := ⟨gb283, _, none⟩) NB279_283.out _).trans (((cell_far (p := ⟨gb283, _, none⟩) NB279_283.out _).trans (((cell_far (p := ⟨gb283, _, none⟩) NB279_283.out _).trans (((cell_far (p := ⟨gb283, _, none⟩) NB279_283.out _).trans (hHeld.2.2.2.1)))))))))))), ((cell_far (p := ⟨gb283, _, none⟩) NB279_283.out _).trans (((cell_far (p := ⟨gb283, _, none⟩) NB279_283.out _).trans (((cell_far (p := ⟨gb283, _, none⟩) NB279_283.out _).trans (((cell_far (p := ⟨gb283, _, none⟩) NB279_283.out _).trans (((cell_far (p := ⟨gb283, _, none⟩) NB279_283.out _).trans (((cell_far (p := ⟨gb283, _, none⟩) NB279_283.out _).trans (hHeld.2.2.2.2.1)))))))))))), ((cell_far (p := ⟨gb283, _, none⟩) NB279_283.out _).trans (((cell_far (p := ⟨gb283, _, none⟩) NB279_283.out _).trans (((cell_far (p := ⟨gb283, _, none⟩) NB279_283.out _).trans (((cell_far (p := ⟨gb283, _, none⟩) NB279_283.out _).trans (((cell_far (p := ⟨gb283, _, none⟩) NB279_283.out _).trans (((cell_far (p := ⟨gb283, _, none⟩) NB279_283.out _).trans (hHeld.2.2.2.2.2.1)))))))))))), ((cell_far (p := ⟨gb283, _, none⟩) NB279_283.out _).trans (((cell_far (p := ⟨gb283, _, none⟩) NB279_283.out _).trans (((cell_far (p := ⟨gb283, _, none⟩) NB279_283.out _).trans (((cell_far (p := ⟨gb283, _, none⟩) NB279_283.out _).trans (((cell_far (p := ⟨gb283, _, none⟩) NB279_283.out _).trans (((cell_far (p := ⟨gb283, _, none⟩) NB279_283.out _).trans (hHeld.2.2.2.2.2.2.1)))))))))))), ((cell_far (p := ⟨gb283, _, none⟩) NB279_283.out _).trans (((cell_far (p := ⟨gb283, _, none⟩) NB279_283.out _).trans (((cell_far (p := ⟨gb283, _, none⟩) NB279_283.out _).trans (((cell_far (p := ⟨gb283, _, none⟩) NB279_283.out _).trans (((cell_far (p := ⟨gb283, _, none⟩) NB279_283.out _).trans (((cell_far (p := ⟨gb283, _, none⟩) NB279_283.out _).trans (hHeld.2.2.2.2.2.2.2))))))))))))⟩ (fun hHeld => ?_)
      clear hK K
      refine done_ (done_of HT_.out (by kernel_rfl)) ?_
      have hnb56 := NB282_279.out
      have hnc56 := NB279_282.out
      have hnb57 := NB282_283.out
      have hnc57 := NB283_282.out
      have hcz58_0 : w43.cell? ⟨gb282, 0, none⟩ = some (.int .i64 0) := (blk_cell BK282.out 0).trans rfl
      have hcz58_1 : w43.cell? ⟨gb282, 1, none⟩ = some (.bool false) := (blk_cell BK282.out 1).trans rfl
      have hcz58_2 : w43.cell? ⟨gb282, 2, none⟩ = some (.int .i64 0) := (blk_cell BK282.out 2).trans rfl
      have hcz58_3 : w43.cell? ⟨gb282, 3, none⟩ = some (.int .i64 0) := (blk_cell BK282.out 3).trans rfl
      have hcz58_4 : w43.cell? ⟨gb282, 4, none⟩ = some (.int .i64 0) := (blk_cell BK282.out 4).trans rfl
      have hcz58_5 : w43.cell? ⟨gb282, 5, none⟩ = some (.int .i64 0) := (blk_cell BK282.out 5).trans rfl
      have hfz58_0 := blk_frozen BK282.out 0
      have hfz58_1 := blk_frozen BK282.out 1
      have hfz58_2 := blk_frozen BK282.out 2
      have hfz58_3 := blk_frozen BK282.out 3
      have hfz58_4 := blk_frozen BK282.out 4
      have hfz58_5 := blk_frozen BK282.out 5
      have hnb59 := NB283_279.out
      have hnc59 := NB279_283.out
      have hcz60_0 : w43.cell? ⟨gb283, 0, none⟩ = some (.int .i64 0) := (blk_cell BK283.out 0).trans rfl
      have hcz60_1 : w43.cell? ⟨gb283, 1, none⟩ = some (.bool false) := (blk_cell BK283.out 1).trans rfl
      have hcz60_2 : w43.cell? ⟨gb283, 2, none⟩ = some (.int .i64 0) := (blk_cell BK283.out 2).trans rfl
      have hcz60_3 : w43.cell? ⟨gb283, 3, none⟩ = some (.int .i64 0) := (blk_cell BK283.out 3).trans rfl
      have hcz60_4 : w43.cell? ⟨gb283, 4, none⟩ = some (.int .i64 0) := (blk_cell BK283.out 4).trans rfl
      have hcz60_5 : w43.cell? ⟨gb283, 5, none⟩ = some (.int .i64 0) := (blk_cell BK283.out 5).trans rfl
      have hfz60_0 := blk_frozen BK283.out 0
      have hfz60_1 := blk_frozen BK283.out 1
      have hfz60_2 := blk_frozen BK283.out 2
      have hfz60_3 := blk_frozen BK283.out 3
      have hfz60_4 := blk_frozen BK283.out 4
      have hfz60_5 := blk_frozen BK283.out 5
      try go_wp2
      have n0_ : Aside0 ((((((((((((((((w43.setCell ⟨gb282, 0, none⟩ (.int .i64 a0_0)).setCell ⟨gb282, 1, none⟩ (.bool a0_1)).setCell ⟨gb282, 2, none⟩ (.int .i64 a0_2)).setCell ⟨gb282, 3, none⟩ (.int .i64 a0_3)).setCell ⟨gb282, 4, none⟩ (.int .i64 a0_4)).setCell ⟨gb282, 5, none⟩ (.int .i64 a0_5)).setCell ⟨gb283, 0, none⟩ (.int .i64 a0_0)).setCell ⟨gb283, 1, none⟩ (.bool a0_1)).setCell ⟨gb283, 2, none⟩ (.int .i64 a0_2)).setCell ⟨gb283, 3, none⟩ (.int .i64 a0_3)).setCell ⟨gb283, 4, none⟩ (.int .i64 a0_4)).setCell ⟨gb283, 5, none⟩ (.int .i64 a0_5)).setCell ⟨gb282, 0, none⟩ (.int .i64 t280)).setCell ⟨gb282, 1, none⟩ (.bool true)).setCell ⟨gb283, 1, none⟩ (.bool true)).heap[gb279]? = some (.cells #[.int .i64 a0_0, .bool a0_1, .int .i64 a0_2, .int .i64 a0_3, .int .i64 a0_4, .int .i64 a0_5, .int .u64 a0_6, .int .u64 a0_7] 39 (0, 0))) := ⟨by (with_reducible repeat (first | refine blk_drewN ?_ _ | refine blk_drew ?_ | refine blk_alloc ?_ _)); refine blk_far ?_ NB279_283.out _; (with_reducible repeat (first | refine blk_drewN ?_ _ | refine blk_drew ?_ | refine blk_alloc ?_ _)); refine blk_far ?_ NB279_282.out _; (with_reducible repeat (first | refine blk_drewN ?_ _ | refine blk_drew ?_ | refine blk_alloc ?_ _)); refine blk_far ?_ NB279_282.out _; (with_reducible repeat (first | refine blk_drewN ?_ _ | refine blk_drew ?_ | refine blk_alloc ?_ _)); refine blk_far ?_ NB279_283.out _; (with_reducible repeat (first | refine blk_drewN ?_ _ | refine blk_drew ?_ | refine blk_alloc ?_ _)); refine blk_far ?_ NB279_283.out _; (with_reducible repeat (first | refine blk_drewN ?_ _ | refine blk_drew ?_ | refine blk_alloc ?_ _)); refine blk_far ?_ NB279_283.out _; (with_reducible repeat (first | refine blk_drewN ?_ _ | refine blk_drew ?_ | refine blk_alloc ?_ _)); refine blk_far ?_ NB279_283.out _; (with_reducible repeat (first | refine blk_drewN ?_ _ | refine blk_drew ?_ | refine blk_alloc ?_ _)); refine blk_far ?_ NB279_283.out _; (with_reducible repeat (first | refine blk_drewN ?_ _ | refine blk_drew ?_ | refine blk_alloc ?_ _)); refine blk_far ?_ NB279_283.out _; (with_reducible repeat (first | refine blk_drewN ?_ _ | refine blk_drew ?_ | refine blk_alloc ?_ _)); refine blk_far ?_ NB279_282.out _; (with_reducible repeat (first | refine blk_drewN ?_ _ | refine blk_drew ?_ | refine blk_alloc ?_ _)); refine blk_far ?_ NB279_282.out _; (with_reducible repeat (first | refine blk_drewN ?_ _ | refine blk_drew ?_ | refine blk_alloc ?_ _)); refine blk_far ?_ NB279_282.out _; (with_reducible repeat (first | refine blk_drewN ?_ _ | refine blk_drew ?_ | refine blk_alloc ?_ _)); refine blk_far ?_ NB279_282.out _; (with_reducible repeat (first | refine blk_drewN ?_ _ | refine blk_drew ?_ | refine blk_alloc ?_ _)); refine blk_far ?_ NB279_282.out _; (with_reducible repeat (first | refine blk_drewN ?_ _ | refine blk_drew ?_ | refine blk_alloc ?_ _)); refine blk_far ?_ NB279_282.out _; (with_reducible repeat (first | refine blk_drewN ?_ _ | refine blk_drew ?_ | refine blk_alloc ?_ _)); exact BK279.out⟩
      have n1_ : Aside0 ((((((((((((((((w43.setCell ⟨gb282, 0, none⟩ (.int .i64 a0_0)).setCell ⟨gb282, 1, none⟩ (.bool a0_1)).setCell ⟨gb282, 2, none⟩ (.int .i64 a0_2)).setCell ⟨gb282, 3, none⟩ (.int .i64 a0_3)).setCell ⟨gb282, 4, none⟩ (.int .i64 a0_4)).setCell ⟨gb282, 5, none⟩ (.int .i64 a0_5)).setCell ⟨gb283, 0, none⟩ (.int .i64 a0_0)).setCell ⟨gb283, 1, none⟩ (.bool a0_1)).setCell ⟨gb283, 2, none⟩ (.int .i64 a0_2)).setCell ⟨gb283, 3, none⟩ (.int .i64 a0_3)).setCell ⟨gb283, 4, none⟩ (.int .i64 a0_4)).setCell ⟨gb283, 5, none⟩ (.int .i64 a0_5)).setCell ⟨gb282, 0, none⟩ (.int .i64 t280)).setCell ⟨gb282, 1, none⟩ (.bool true)).setCell ⟨gb283, 1, none⟩ (.bool true)).heap[gb282]? = some (.cells #[.int .i64 t280, .bool true, .int .i64 a0_2, .int .i64 a0_3, .int .i64 a0_4, .int .i64 a0_5] 29 (0, 0))) := ⟨by (with_reducible repeat (first | refine blk_drewN ?_ _ | refine blk_drew ?_ | refine blk_alloc ?_ _)); refine blk_far ?_ NB282_283.out _; (with_reducible repeat (first | refine blk_drewN ?_ _ | refine blk_drew ?_ | refine blk_alloc ?_ _)); refine blk_put (cs := #[.int .i64 t280, .bool a0_1, .int .i64 a0_2, .int .i64 a0_3, .int .i64 a0_4, .int .i64 a0_5]) ?_ 1 _ rfl; (with_reducible repeat (first | refine blk_drewN ?_ _ | refine blk_drew ?_ | refine blk_alloc ?_ _)); refine blk_put (cs := #[.int .i64 a0_0, .bool a0_1, .int .i64 a0_2, .int .i64 a0_3, .int .i64 a0_4, .int .i64 a0_5]) ?_ 0 _ rfl; (with_reducible repeat (first | refine blk_drewN ?_ _ | refine blk_drew ?_ | refine blk_alloc ?_ _)); refine blk_far ?_ NB282_283.out _; (with_reducible repeat (first | refine blk_drewN ?_ _ | refine blk_drew ?_ | refine blk_alloc ?_ _)); refine blk_far ?_ NB282_283.out _; (with_reducible repeat (first | refine blk_drewN ?_ _ | refine blk_drew ?_ | refine blk_alloc ?_ _)); refine blk_far ?_ NB282_283.out _; (with_reducible repeat (first | refine blk_drewN ?_ _ | refine blk_drew ?_ | refine blk_alloc ?_ _)); refine blk_far ?_ NB282_283.out _; (with_reducible repeat (first | refine blk_drewN ?_ _ | refine blk_drew ?_ | refine blk_alloc ?_ _)); refine blk_far ?_ NB282_283.out _; (with_reducible repeat (first | refine blk_drewN ?_ _ | refine blk_drew ?_ | refine blk_alloc ?_ _)); refine blk_far ?_ NB282_283.out _; (with_reducible repeat (first | refine blk_drewN ?_ _ | refine blk_drew ?_ | refine blk_alloc ?_ _)); refine blk_put (cs := #[.int .i64 a0_0, .bool a0_1, .int .i64 a0_2, .int .i64 a0_3, .int .i64 a0_4, .int .i64 0]) ?_ 5 _ rfl; (with_reducible repeat (first | refine blk_drewN ?_ _ | refine blk_drew ?_ | refine blk_alloc ?_ _)); refine blk_put (cs := #[.int .i64 a0_0, .bool a0_1, .int .i64 a0_2, .int .i64 a0_3, .int .i64 0, .int .i64 0]) ?_ 4 _ rfl; (with_reducible repeat (first | refine blk_drewN ?_ _ | refine blk_drew ?_ | refine blk_alloc ?_ _)); refine blk_put (cs := #[.int .i64 a0_0, .bool a0_1, .int .i64 a0_2, .int .i64 0, .int .i64 0, .int .i64 0]) ?_ 3 _ rfl; (with_reducible repeat (first | refine blk_drewN ?_ _ | refine blk_drew ?_ | refine blk_alloc ?_ _)); refine blk_put (cs := #[.int .i64 a0_0, .bool a0_1, .int .i64 0, .int .i64 0, .int .i64 0, .int .i64 0]) ?_ 2 _ rfl; (with_reducible repeat (first | refine blk_drewN ?_ _ | refine blk_drew ?_ | refine blk_alloc ?_ _)); refine blk_put (cs := #[.int .i64 a0_0, .bool false, .int .i64 0, .int .i64 0, .int .i64 0, .int .i64 0]) ?_ 1 _ rfl; (with_reducible repeat (first | refine blk_drewN ?_ _ | refine blk_drew ?_ | refine blk_alloc ?_ _)); refine blk_put (cs := #[.int .i64 0, .bool false, .int .i64 0, .int .i64 0, .int .i64 0, .int .i64 0]) ?_ 0 _ rfl; (with_reducible repeat (first | refine blk_drewN ?_ _ | refine blk_drew ?_ | refine blk_alloc ?_ _)); exact BK282.out⟩
      have n2_ : Aside0 ((((((((((((((((w43.setCell ⟨gb282, 0, none⟩ (.int .i64 a0_0)).setCell ⟨gb282, 1, none⟩ (.bool a0_1)).setCell ⟨gb282, 2, none⟩ (.int .i64 a0_2)).setCell ⟨gb282, 3, none⟩ (.int .i64 a0_3)).setCell ⟨gb282, 4, none⟩ (.int .i64 a0_4)).setCell ⟨gb282, 5, none⟩ (.int .i64 a0_5)).setCell ⟨gb283, 0, none⟩ (.int .i64 a0_0)).setCell ⟨gb283, 1, none⟩ (.bool a0_1)).setCell ⟨gb283, 2, none⟩ (.int .i64 a0_2)).setCell ⟨gb283, 3, none⟩ (.int .i64 a0_3)).setCell ⟨gb283, 4, none⟩ (.int .i64 a0_4)).setCell ⟨gb283, 5, none⟩ (.int .i64 a0_5)).setCell ⟨gb282, 0, none⟩ (.int .i64 t280)).setCell ⟨gb282, 1, none⟩ (.bool true)).setCell ⟨gb283, 1, none⟩ (.bool true)).heap[gb283]? = some (.cells #[.int .i64 a0_0, .bool true, .int .i64 a0_2, .int .i64 a0_3, .int .i64 a0_4, .int .i64 a0_5] 29 (0, 0))) := ⟨by (with_reducible repeat (first | refine blk_drewN ?_ _ | refine blk_drew ?_ | refine blk_alloc ?_ _)); refine blk_put (cs := #[.int .i64 a0_0, .bool a0_1, .int .i64 a0_2, .int .i64 a0_3, .int .i64 a0_4, .int .i64 a0_5]) ?_ 1 _ rfl; (with_reducible repeat (first | refine blk_drewN ?_ _ | refine blk_drew ?_ | refine blk_alloc ?_ _)); refine blk_far ?_ NB283_282.out _; (with_reducible repeat (first | refine blk_drewN ?_ _ | refine blk_drew ?_ | refine blk_alloc ?_ _)); refine blk_far ?_ NB283_282.out _; (with_reducible repeat (first | refine blk_drewN ?_ _ | refine blk_drew ?_ | refine blk_alloc ?_ _)); refine blk_put (cs := #[.int .i64 a0_0, .bool a0_1, .int .i64 a0_2, .int .i64 a0_3, .int .i64 a0_4, .int .i64 0]) ?_ 5 _ rfl; (with_reducible repeat (first | refine blk_drewN ?_ _ | refine blk_drew ?_ | refine blk_alloc ?_ _)); refine blk_put (cs := #[.int .i64 a0_0, .bool a0_1, .int .i64 a0_2, .int .i64 a0_3, .int .i64 0, .int .i64 0]) ?_ 4 _ rfl; (with_reducible repeat (first | refine blk_drewN ?_ _ | refine blk_drew ?_ | refine blk_alloc ?_ _)); refine blk_put (cs := #[.int .i64 a0_0, .bool a0_1, .int .i64 a0_2, .int .i64 0, .int .i64 0, .int .i64 0]) ?_ 3 _ rfl; (with_reducible repeat (first | refine blk_drewN ?_ _ | refine blk_drew ?_ | refine blk_alloc ?_ _)); refine blk_put (cs := #[.int .i64 a0_0, .bool a0_1, .int .i64 0, .int .i64 0, .int .i64 0, .int .i64 0]) ?_ 2 _ rfl; (with_reducible repeat (first | refine blk_drewN ?_ _ | refine blk_drew ?_ | refine blk_alloc ?_ _)); refine blk_put (cs := #[.int .i64 a0_0, .bool false, .int .i64 0, .int .i64 0, .int .i64 0, .int .i64 0]) ?_ 1 _ rfl; (with_reducible repeat (first | refine blk_drewN ?_ _ | refine blk_drew ?_ | refine blk_alloc ?_ _)); refine blk_put (cs := #[.int .i64 0, .bool false, .int .i64 0, .int .i64 0, .int .i64 0, .int .i64 0]) ?_ 0 _ rfl; (with_reducible repeat (first | refine blk_drewN ?_ _ | refine blk_drew ?_ | refine blk_alloc ?_ _)); refine blk_far ?_ NB283_282.out _; (with_reducible repeat (first | refine blk_drewN ?_ _ | refine blk_drew ?_ | refine blk_alloc ?_ _)); refine blk_far ?_ NB283_282.out _; (with_reducible repeat (first | refine blk_drewN ?_ _ | refine blk_drew ?_ | refine blk_alloc ?_ _)); refine blk_far ?_ NB283_282.out _; (with_reducible repeat (first | refine blk_drewN ?_ _ | refine blk_drew ?_ | refine blk_alloc ?_ _)); refine blk_far ?_ NB283_282.out _; (with_reducible repeat (first | refine blk_drewN ?_ _ | refine blk_drew ?_ | refine blk_alloc ?_ _)); refine blk_far ?_ NB283_282.out _; (with_reducible repeat (first | refine blk_drewN ?_ _ | refine blk_drew ?_ | refine blk_alloc ?_ _)); refine blk_far ?_ NB283_282.out _; (with_reducible repeat (first | refine blk_drewN ?_ _ | refine blk_drew ?_ | refine blk_alloc ?_ _)); exact BK283.out⟩
      have n3_ : Aside0 (Below w.heap.size w (((((((((((((((w43.setCell ⟨gb282, 0, none⟩ (.int .i64 a0_0)).setCell ⟨gb282, 1, none⟩ (.bool a0_1)).setCell ⟨gb282, 2, none⟩ (.int .i64 a0_2)).setCell ⟨gb282, 3, none⟩ (.int .i64 a0_3)).setCell ⟨gb282, 4, none⟩ (.int .i64 a0_4)).setCell ⟨gb282, 5, none⟩ (.int .i64 a0_5)).setCell ⟨gb283, 0, none⟩ (.int .i64 a0_0)).setCell ⟨gb283, 1, none⟩ (.bool a0_1)).setCell ⟨gb283, 2, none⟩ (.int .i64 a0_2)).setCell ⟨gb283, 3, none⟩ (.int .i64 a0_3)).setCell ⟨gb283, 4, none⟩ (.int .i64 a0_4)).setCell ⟨gb283, 5, none⟩ (.int .i64 a0_5)).setCell ⟨gb282, 0, none⟩ (.int .i64 t280)).setCell ⟨gb282, 1, none⟩ (.bool true)).setCell ⟨gb283, 1, none⟩ (.bool true))) := ⟨by repeat (first | (with_reducible first | exact HB.out | apply below_alloc | apply pw_below_drewN | apply below_drew1 | refine below_set ?_ GE279.out | refine below_set ?_ GE282.out | refine below_set ?_ GE283.out) | exact HB.out)⟩
      (try clear BK279)
      (try clear BK282)
      (try clear BK283)
      (try clear HB)
      generalize (((((((((((((((w43.setCell ⟨gb282, 0, none⟩ (.int .i64 a0_0)).setCell ⟨gb282, 1, none⟩ (.bool a0_1)).setCell ⟨gb282, 2, none⟩ (.int .i64 a0_2)).setCell ⟨gb282, 3, none⟩ (.int .i64 a0_3)).setCell ⟨gb282, 4, none⟩ (.int .i64 a0_4)).setCell ⟨gb282, 5, none⟩ (.int .i64 a0_5)).setCell ⟨gb283, 0, none⟩ (.int .i64 a0_0)).setCell ⟨gb283, 1, none⟩ (.bool a0_1)).setCell ⟨gb283, 2, none⟩ (.int .i64 a0_2)).setCell ⟨gb283, 3, none⟩ (.int .i64 a0_3)).setCell ⟨gb283, 4, none⟩ (.int .i64 a0_4)).setCell ⟨gb283, 5, none⟩ (.int .i64 a0_5)).setCell ⟨gb282, 0, none⟩ (.int .i64 t280)).setCell ⟨gb282, 1, none⟩ (.bool true)).setCell ⟨gb283, 1, none⟩ (.bool true)) = w61 at n0_ n1_ n2_ n3_ ⊢
      have BK279 := n0_
      have BK282 := n1_
      have BK283 := n2_
      have HB := n3_
      clear n0_ n1_ n2_ n3_
      have n0_ := Aside0.mk (blk_drew BK279.out)
      have n1_ := Aside0.mk (blk_drew BK282.out)
      have n2_ := Aside0.mk (blk_drew BK283.out)
      have n3_ := Aside0.mk (below_drew1 HB.out)
      clear BK279
      clear BK282
      clear BK283
      clear HB
      have BK279 := n0_
      have BK282 := n1_
      have BK283 := n2_
      have HB := n3_
      clear n0_ n1_ n2_ n3_
      refine start_ (n := 17) (S := fun w' => True) (ds := []) #[false, false, false, false, false, false, false, false, false, false, false, false, false, false, false, false, false] (by kernel_rfl) rfl rfl trivial (fun hHeld => ?_); refine with_tabW slotcodelaw07_CondMirror.tab6 slotcodelaw07_CondMirror.bits6 (fun HT_ HW_ => ?_)
      generalize w61.drew = w62 at BK279 BK282 BK283 HB hHeld ⊢
      refine one_ (i := 0) (N := some 25) #[true, false, false, false, false, false, false, false, false, false, false, false, false, false, false, false, false] rfl rfl (one_of HT_.out (by kernel_rfl)) (by decide) (fun K hK => ?_)
      refine goes_ Tryd.func30 (by kernel_rfl) rfl #[] (by rfl) rfl rfl (by (try simp only [List.map_toArray, List.map_cons, List.map_nil]); first | done | rfl | (simp only [List.length_drop, List.length_take]; rfl)) ?_
      with_reducible refine (slotcodelaw07_alive.calls  false _ A4.out (G_at hG (by repeat (first | (with_reducible first | exact HB.out | apply below_alloc | apply pw_below_drewN | apply below_drew1 | refine below_set ?_ GE279.out | refine below_set ?_ GE282.out | refine below_set ?_ GE283.out) | exact HB.out)))).mono ?_
      rintro e w63 ⟨rfl, hb⟩
      refine ⟨_, rfl, ?_⟩
      have n0_ := Aside0.mk (blk_below (g := gb279) (o := .cells #[.int .i64 a0_0, .bool a0_1, .int .i64 a0_2, .int .i64 a0_3, .int .i64 a0_4, .int .i64 a0_5, .int .u64 a0_6, .int .u64 a0_7] 39 (0, 0)) (by (with_reducible repeat (first | refine blk_drewN ?_ _ | refine blk_drew ?_ | refine blk_alloc ?_ _)); exact BK279.out) hb)
      have n1_ := Aside0.mk (blk_below (g := gb282) (o := .cells #[.int .i64 t280, .bool true, .int .i64 a0_2, .int .i64 a0_3, .int .i64 a0_4, .int .i64 a0_5] 29 (0, 0)) (by (with_reducible repeat (first | refine blk_drewN ?_ _ | refine blk_drew ?_ | refine blk_alloc ?_ _)); exact BK282.out) hb)
      have n2_ := Aside0.mk (blk_below (g := gb283) (o := .cells #[.int .i64 a0_0, .bool true, .int .i64 a0_2, .int .i64 a0_3, .int .i64 a0_4, .int .i64 a0_5] 29 (0, 0)) (by (with_reducible repeat (first | refine blk_drewN ?_ _ | refine blk_drew ?_ | refine blk_alloc ?_ _)); exact BK283.out) hb)
      have n3_ := Aside0.mk (below_step (by repeat (first | (with_reducible first | exact HB.out | apply below_alloc | apply pw_below_drewN | apply below_drew1 | refine below_set ?_ GE279.out | refine below_set ?_ GE282.out | refine below_set ?_ GE283.out) | exact HB.out)) hb)
      clear BK279
      clear BK282
      clear BK283
      clear HB
      have BK279 := n0_
      have BK282 := n1_
      have BK283 := n2_
      have HB := n3_
      clear n0_ n1_ n2_ n3_
      (try clear hb)
      (try clear hb2)
      (try clear hk)
      (try clear hi)
      refine hK.out _ _ trivial (fun hHeld => ?_)
      clear hK K
      refine norm_ (a' := ?_) ?_ ?_
      rotate_left
      · show Act.put _ (some 25) _ = _
        simp only [Act.put, List.setIfInBounds_toArray, List.set_cons_zero, List.set_cons_succ, i64_w, i32_w]
        rfl
      refine pure_ (i := 1) (N := some 26) (v := ?_) (a' := ?_) #[true, true, false, false, false, false, false, false, false, false, false, false, false, false, false, false, false] rfl rfl (any_of HT_.out (by kernel_rfl)) (fun _ _ _ h => h) (Or.inl ⟨by rfl, ?_⟩) ?_ ?_
      rotate_left
      · intro w'
        go_simp
        with_reducible rfl
      rotate_left
      · simp only [Act.put, List.setIfInBounds_toArray, List.set_cons_zero, List.set_cons_succ, i64_w, i32_w]
        rfl
      refine pure_ (i := 2) (N := some 27) (v := undef) (a' := ?_) #[true, true, true, false, false, false, false, false, false, false, false, false, false, false, false, false, false] rfl rfl (any_of HT_.out (by kernel_rfl)) (fun _ _ _ h => h) (Or.inr ⟨by rfl, rfl⟩) ?_ ?_
      rotate_left
      · simp only [Act.put, List.setIfInBounds_toArray, List.set_cons_zero, List.set_cons_succ, i64_w, i32_w]
        rfl
      refine pure_ (i := 3) (N := some 28) (v := undef) (a' := ?_) #[true, true, true, true, false, false, false, false, false, false, false, false, false, false, false, false, false] rfl rfl (any_of HT_.out (by kernel_rfl)) (fun _ _ _ h => h) (Or.inr ⟨by rfl, rfl⟩) ?_ ?_
      rotate_left
      · simp only [Act.put, List.setIfInBounds_toArray, List.set_cons_zero, List.set_cons_succ, i64_w, i32_w]
        rfl
      refine pure_ (i := 4) (N := some 29) (v := undef) (a' := ?_) #[true, true, true, true, true, false, false, false, false, false, false, false, false, false, false, false, false] rfl rfl (any_of HT_.out (by kernel_rfl)) (fun _ _ _ h => h) (Or.inr ⟨by rfl, rfl⟩) ?_ ?_
      rotate_left
      · simp only [Act.put, List.setIfInBounds_toArray, List.set_cons_zero, List.set_cons_succ, i64_w, i32_w]
        rfl
      refine pure_ (i := 5) (N := some 30) (v := undef) (a' := ?_) #[true, true, true, true, true, true, false, false, false, false, false, false, false, false, false, false, false] rfl rfl (any_of HT_.out (by kernel_rfl)) (fun _ _ _ h => h) (Or.inr ⟨by rfl, rfl⟩) ?_ ?_
      rotate_left
      · simp only [Act.put, List.setIfInBounds_toArray, List.set_cons_zero, List.set_cons_succ, i64_w, i32_w]
        rfl
      refine pure_ (i := 6) (N := some 31) (v := undef) (a' := ?_) #[true, true, true, true, true, true, true, false, false, false, false, false, false, false, false, false, false] rfl rfl (any_of HT_.out (by kernel_rfl)) (fun _ _ _ h => h) (Or.inr ⟨by rfl, rfl⟩) ?_ ?_
      rotate_left
      · simp only [Act.put, List.setIfInBounds_toArray, List.set_cons_zero, List.set_cons_succ, i64_w, i32_w]
        rfl
      refine pure_ (i := 7) (N := some 32) (v := undef) (a' := ?_) #[true, true, true, true, true, true, true, true, false, false, false, false, false, false, false, false, false] rfl rfl (any_of HT_.out (by kernel_rfl)) (fun _ _ _ h => h) (Or.inr ⟨by rfl, rfl⟩) ?_ ?_
      rotate_left
      · simp only [Act.put, List.setIfInBounds_toArray, List.set_cons_zero, List.set_cons_succ, i64_w, i32_w]
        rfl
      refine pure_ (i := 8) (N := some 33) (v := undef) (a' := ?_) #[true, true, true, true, true, true, true, true, true, false, false, false, false, false, false, false, false] rfl rfl (any_of HT_.out (by kernel_rfl)) (fun _ _ _ h => h) (Or.inr ⟨by rfl, rfl⟩) ?_ ?_
      rotate_left
      · simp only [Act.put, List.setIfInBounds_toArray, List.set_cons_zero, List.set_cons_succ, i64_w, i32_w]
        rfl
      refine pure_ (i := 9) (N := some 34) (v := undef) (a' := ?_) #[true, true, true, true, true, true, true, true, true, true, false, false, false, false, false, false, false] rfl rfl (any_of HT_.out (by kernel_rfl)) (fun _ _ _ h => h) (Or.inr ⟨by rfl, rfl⟩) ?_ ?_
      rotate_left
      · simp only [Act.put, List.setIfInBounds_toArray, List.set_cons_zero, List.set_cons_succ, i64_w, i32_w]
        rfl
      refine pure_ (i := 10) (N := some 35) (v := undef) (a' := ?_) #[true, true, true, true, true, true, true, true, true, true, true, false, false, false, false, false, false] rfl rfl (any_of HT_.out (by kernel_rfl)) (fun _ _ _ h => h) (Or.inr ⟨by rfl, rfl⟩) ?_ ?_
      rotate_left
      · simp only [Act.put, List.setIfInBounds_toArray, List.set_cons_zero, List.set_cons_succ, i64_w, i32_w]
        rfl
      refine pure_ (i := 11) (N := some 36) (v := undef) (a' := ?_) #[true, true, true, true, true, true, true, true, true, true, true, true, false, false, false, false, false] rfl rfl (any_of HT_.out (by kernel_rfl)) (fun _ _ _ h => h) (Or.inr ⟨by rfl, rfl⟩) ?_ ?_
      rotate_left
      · simp only [Act.put, List.setIfInBounds_toArray, List.set_cons_zero, List.set_cons_succ, i64_w, i32_w]
        rfl
      refine pure_ (i := 12) (N := some 37) (v := undef) (a' := ?_) #[true, true, true, true, true, true, true, true, true, true, true, true, true, false, false, false, false] rfl rfl (any_of HT_.out (by kernel_rfl)) (fun _ _ _ h => h) (Or.inr ⟨by rfl, rfl⟩) ?_ ?_
      rotate_left
      · simp only [Act.put, List.setIfInBounds_toArray, List.set_cons_zero, List.set_cons_succ, i64_w, i32_w]
        rfl
      refine pure_ (i := 13) (N := some 38) (v := undef) (a' := ?_) #[true, true, true, true, true, true, true, true, true, true, true, true, true, true, false, false, false] rfl rfl (any_of HT_.out (by kernel_rfl)) (fun _ _ _ h => h) (Or.inr ⟨by rfl, rfl⟩) ?_ ?_
      rotate_left
      · simp only [Act.put, List.setIfInBounds_toArray, List.set_cons_zero, List.set_cons_succ, i64_w, i32_w]
        rfl
      refine pure_ (i := 14) (N := some 39) (v := undef) (a' := ?_) #[true, true, true, true, true, true, true, true, true, true, true, true, true, true, true, false, false] rfl rfl (any_of HT_.out (by kernel_rfl)) (fun _ _ _ h => h) (Or.inr ⟨by rfl, rfl⟩) ?_ ?_
      rotate_left
      · simp only [Act.put, List.setIfInBounds_toArray, List.set_cons_zero, List.set_cons_succ, i64_w, i32_w]
        rfl
      refine pure_ (i := 15) (N := some 40) (v := ?_) (a' := ?_) #[true, true, true, true, true, true, true, true, true, true, true, true, true, true, true, true, false] rfl rfl (any_of HT_.out (by kernel_rfl)) (fun _ _ _ h => h) (Or.inl ⟨by rfl, ?_⟩) ?_ ?_
      rotate_left
      · intro w'
        go_simp
        with_reducible rfl
      rotate_left
      · simp only [Act.put, List.setIfInBounds_toArray, List.set_cons_zero, List.set_cons_succ, i64_w, i32_w]
        rfl
      refine pure_ (i := 16) (N := some 2) (v := ?_) (a' := ?_) #[true, true, true, true, true, true, true, true, true, true, true, true, true, true, true, true, true] rfl rfl (any_of HT_.out (by kernel_rfl)) (fun _ _ _ h => h) (Or.inl ⟨by rfl, ?_⟩) ?_ ?_
      rotate_left
      · intro w'
        go_simp
        with_reducible rfl
      rotate_left
      · simp only [Act.put, List.setIfInBounds_toArray, List.set_cons_zero, List.set_cons_succ, i64_w, i32_w]
        rfl
      refine done_ (done_of HT_.out (by kernel_rfl)) ?_
      try go_wp2
      go_ret
      exact ⟨by first | rfl | (simp [errW_none, errW_some] <;> rfl) | (simp [*, errW_none, errW_some] <;> rfl), by repeat (first | (with_reducible first | exact HB.out | apply below_alloc | apply pw_below_drewN | apply below_drew1 | refine below_set ?_ GE279.out | refine below_set ?_ GE282.out | refine below_set ?_ GE283.out) | exact HB.out)⟩
  · replace c3 := Bool.eq_false_iff.mpr c3
    subst c3
    have H1 : ((slotcodelaw07_alive.f).bind fun t287 => (some t287)) = some r := by rw [if_neg (show ¬ (false = true) by decide)] at H; exact H
    clear H
    have H := H1
    clear H1
    replace H := Option.bind_eq_some_iff.mp H
    obtain ⟨t287, A640, H⟩ := H
    replace H : (some t287) = some r := H
    have A64 := Aside0.mk A640
    clear A640
    obtain rfl := Option.some.inj H
    go_enter Tryd.func12, Tryd.ntmps12
    go_wp2_with (first | ((with_reducible refine gate_dst (N := 1) rfl ?_); refine box_event ?hg (N := 1) ?hd (cs := #[.int .i64 a0_0, .bool a0_1, .int .i64 a0_2, .int .i64 a0_3, .int .i64 a0_4, .int .i64 a0_5, .int .u64 a0_6, .int .u64 a0_7]) (t := 39) ?hr ?_; (case hd => rfl); (case hg => rfl); (case hr => first | (go_simp; done) | (go_simp; rfl)); intro gb279 hg w65 hbox hb; have n0_ := Aside0.mk (below_step (by repeat (first | (with_reducible first | exact HB.out | apply below_alloc | apply pw_below_drewN | apply below_drew1) | exact HB.out)) hb); have n1_ := Aside0.mk (hbox); have n2_ := Aside0.mk ((by rw [hg]; exact (below_size (by repeat (first | (with_reducible first | exact HB.out | apply below_alloc | apply pw_below_drewN | apply below_drew1) | exact HB.out))) : w.heap.size ≤ gb279)); have n3_ := Aside0.mk ((by rw [hg]; exact (below_size (by repeat (first | (with_reducible first | exact HB.out | apply below_alloc | apply pw_below_drewN | apply below_drew1) | exact HB.out))) : w.heap.size ≤ gb279)); clear HB; have HB := n0_; have BK279 := n1_; have GW279 := n2_; have GE279 := n3_; clear n0_ n1_ n2_ n3_; clear hb hbox hg; have hcz66_0 : w65.cell? ⟨gb279, 0, none⟩ = some (.int .i64 a0_0) := (blk_cell BK279.out 0).trans rfl; have hcz66_1 : w65.cell? ⟨gb279, 1, none⟩ = some (.bool a0_1) := (blk_cell BK279.out 1).trans rfl; have hcz66_2 : w65.cell? ⟨gb279, 2, none⟩ = some (.int .i64 a0_2) := (blk_cell BK279.out 2).trans rfl; have hcz66_3 : w65.cell? ⟨gb279, 3, none⟩ = some (.int .i64 a0_3) := (blk_cell BK279.out 3).trans rfl; have hcz66_4 : w65.cell? ⟨gb279, 4, none⟩ = some (.int .i64 a0_4) := (blk_cell BK279.out 4).trans rfl; have hcz66_5 : w65.cell? ⟨gb279, 5, none⟩ = some (.int .i64 a0_5) := (blk_cell BK279.out 5).trans rfl; have hcz66_6 : w65.cell? ⟨gb279, 6, none⟩ = some (.int .u64 a0_6) := (blk_cell BK279.out 6).trans rfl; have hcz66_7 : w65.cell? ⟨gb279, 7, none⟩ = some (.int .u64 a0_7) := (blk_cell BK279.out 7).trans rfl; have hfz66_0 := blk_frozen BK279.out 0; have hfz66_1 := blk_frozen BK279.out 1; have hfz66_2 := blk_frozen BK279.out 2; have hfz66_3 := blk_frozen BK279.out 3; have hfz66_4 := blk_frozen BK279.out 4; have hfz66_5 := blk_frozen BK279.out 5; have hfz66_6 := blk_frozen BK279.out 6; have hfz66_7 := blk_frozen BK279.out 7) | ((with_reducible refine gate_callee (f := 34) rfl ?_); refine goesL_ (some 11) rfl rfl Tryd.func34 (by kernel_rfl) rfl #[.int .i64 a0_0] rfl (by (try simp only [List.map_toArray, List.map_cons, List.map_nil]); first | done | rfl | (simp only [List.length_drop, List.length_take]; rfl)) ?_; (with_reducible refine (cond_Mirror.calls a0_0 t280 false _ A2.out (G_at hG (by repeat (first | (with_reducible first | exact HB.out | apply below_alloc | apply pw_below_drewN | apply below_drew1 | refine below_set ?_ GE279.out | refine below_set ?_ GE282.out | refine below_set ?_ GE283.out) | exact HB.out)))).mono ?_); rintro e w67 ⟨rfl, hb⟩; refine ⟨_, rfl, ?_⟩; have n0_ := Aside0.mk (blk_below (g := gb279) (o := .cells #[.int .i64 a0_0, .bool a0_1, .int .i64 a0_2, .int .i64 a0_3, .int .i64 a0_4, .int .i64 a0_5, .int .u64 a0_6, .int .u64 a0_7] 39 (0, 0)) (by (with_reducible repeat (first | refine blk_drewN ?_ _ | refine blk_drew ?_ | refine blk_alloc ?_ _)); exact BK279.out) hb); have n1_ := Aside0.mk (below_step (by repeat (first | (with_reducible first | exact HB.out | apply below_alloc | apply pw_below_drewN | apply below_drew1 | refine below_set ?_ GE279.out) | exact HB.out)) hb); clear BK279; clear HB; have BK279 := n0_; have HB := n1_; clear n0_ n1_; (try clear hb); (try clear hb2); (try clear hk); (try clear hi)) | ((with_reducible refine gate_callee (f := 30) rfl ?_); refine goesL_ (some 16) rfl rfl Tryd.func30 (by kernel_rfl) rfl #[] rfl (by (try simp only [List.map_toArray, List.map_cons, List.map_nil]); first | done | rfl | (simp only [List.length_drop, List.length_take]; rfl)) ?_; (with_reducible refine (slotcodelaw07_alive.calls  t287 _ A64.out (G_at hG (by repeat (first | (with_reducible first | exact HB.out | apply below_alloc | apply pw_below_drewN | apply below_drew1 | refine below_set ?_ GE279.out | refine below_set ?_ GE282.out | refine below_set ?_ GE283.out) | exact HB.out)))).mono ?_); rintro e w68 ⟨rfl, hb⟩; refine ⟨_, rfl, ?_⟩; have n0_ := Aside0.mk (blk_below (g := gb279) (o := .cells #[.int .i64 a0_0, .bool a0_1, .int .i64 a0_2, .int .i64 a0_3, .int .i64 a0_4, .int .i64 a0_5, .int .u64 a0_6, .int .u64 a0_7] 39 (0, 0)) (by (with_reducible repeat (first | refine blk_drewN ?_ _ | refine blk_drew ?_ | refine blk_alloc ?_ _)); exact BK279.out) hb); have n1_ := Aside0.mk (below_step (by repeat (first | (with_reducible first | exact HB.out | apply below_alloc | apply pw_below_drewN | apply below_drew1 | refine below_set ?_ GE279.out) | exact HB.out)) hb); clear BK279; clear HB; have BK279 := n0_; have HB := n1_; clear n0_ n1_; (try clear hb); (try clear hb2); (try clear hk); (try clear hi)))
    go_ret
    exact ⟨by first | rfl | (simp [errW_none, errW_some] <;> rfl) | (simp [*, errW_none, errW_some] <;> rfl), by repeat (first | (with_reducible first | exact HB.out | apply below_alloc | apply pw_below_drewN | apply below_drew1 | refine below_set ?_ GE279.out) | exact HB.out)⟩

end Go.Proofs.YtnllfppkfdnjpaaDoor.Q
