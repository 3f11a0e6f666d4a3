/- insn.Check: the first rule that an instruction breaks. -/
import Derived.Test.YtnllfppkfdnjpabDoorRul
namespace Go.Proofs.YtnllfppkfdnjpabDoor.Q
open Go Go.RowKit Go.Proofs.YtnllfppkfdnjpabDoor.Ops Go.Proofs.YtnllfppkfdnjpabDoorW.PrintWords

theorem run_store_fn {P : Program} {w : World} {a : Addr} {m : Mode} (f : Fn) (x y : Array Value) : (store a (.func f x y) m).run P w = stored P w a (.func f x y) m := run_store P w a _ m rfl
attribute [local go_sem] run_store_fn
theorem rules_any (w : World) : Calls Tryd.prog 82 #[] w fun e w' => ∃ b, w.heap.size ≤ b ∧ b + 1 < w'.heap.size ∧ e = .returned (.slice (some ⟨b + 1, 0, none⟩) 5 5) ∧ w'.cell? ⟨b, 0, none⟩ = some (.func (.func 119) #[] #[]) ∧
    w'.cell? ⟨b + 1, 0, none⟩ = some (.func (.func 120) #[] #[]) ∧ w'.cell? ⟨b + 1, 1, none⟩ = some (.int .i64 6) ∧ w'.cell? ⟨b + 1, 2, none⟩ = some (.func (.func 121) #[] #[]) ∧ w'.cell? ⟨b + 1, 3, none⟩ = some (.int .i64 12) ∧
    w'.cell? ⟨b + 1, 4, none⟩ = some (.func (.func 122) #[] #[]) ∧ w'.cell? ⟨b + 1, 5, none⟩ = some (.int .i64 12) ∧ w'.cell? ⟨b + 1, 6, none⟩ = some (.func (.func 123) #[] #[.pointer (some ⟨b, 0, none⟩)]) ∧ w'.cell? ⟨b + 1, 7, none⟩ = some (.int .i64 5) ∧
    w'.cell? ⟨b + 1, 8, none⟩ = some (.func (.func 124) #[] #[]) ∧ w'.cell? ⟨b + 1, 9, none⟩ = some (.int .i64 4) ∧ Below w.heap.size w w' := by
  go_enter Tryd.func82, Tryd.ntmps82
  go_wp2_with fail
  go_ret
  refine ⟨w.heap.size, Nat.le_refl _, by simp, rfl, ?_, ?_, ?_, ?_, ?_, ?_, ?_, ?_, ?_, ?_, ?_, ((Below.refl _ w).alloc (Nat.le_refl _) _).alloc (by simp) _⟩
  all_goals simp

/-! What Uses returns -/
def usesT (t : Int) (reg : Bool) : Bool × Bool × Bool × Bool :=
  ([0, 1, 2, 4, 7, 8, 9, 10, 11].contains t, [2, 7, 9].contains t || reg && [0, 4].contains t, [3, 4, 7, 8, 9].contains t, [5, 8, 10, 11].contains t || !reg && [0, 4].contains t)
theorem form_small : (List.range 86).map (fun n => decide (0 ≤ formS (Int.ofNat n)) && decide (formS (Int.ofNat n) ≤ 11)) = (List.range 86).map (fun _ => true) := by kernel_rfl
theorem in_rangeQ {α : Type} {f g : Int → α} (h : (List.range 86).map (fun n => f (Int.ofNat n)) = (List.range 86).map (fun n => g (Int.ofNat n))) (n : Int) (hn : Is n) : f n = g n := by
  obtain ⟨m, rfl⟩ := Int.eq_ofNat_of_zero_le hn.1
  exact of_range h m (by have := hn.2; omega)
theorem formS_out {n : Int} (h : ¬ Is n) : formS n = -1 := by simp only [formS, rowS, if_neg h]
theorem formS_range (n : Int) : -1 ≤ formS n ∧ formS n ≤ 11 := by
  by_cases h : Is n
  · have := in_rangeQ (f := fun n => decide (0 ≤ formS n) && decide (formS n ≤ 11)) (g := fun _ => true) form_small n h
    simp only [Bool.and_eq_true, decide_eq_true_eq] at this
    omega
  · rw [formS_out h]; omega
/-- One of thirteen forms. -/
theorem form_cases {C : Int → Prop} (h : ∀ t ∈ ([-1, 0, 1, 2, 3, 4, 5, 6, 7, 8, 9, 10, 11] : List Int), C t) (n : Int) : C (formS n) := by
  have hr := formS_range n
  exact h _ (by simp; omega)
theorem uses_f (o : Int) (reg : Bool) : insn_Uses.f 10 o reg = some (usesT (formS o) reg) := by
  unfold insn_Uses.f ops_Form.f
  simp only [Option.bind_some]
  refine form_cases (C := fun t => (if t = 4 then insn_Uses.j0 10 reg t t (t == 4) false false false false else insn_Uses.j0 10 reg t t (t == 3) false false false false) = some (usesT t reg)) (fun t ht => ?_) o
  simp only [List.mem_cons, List.not_mem_nil, or_false] at ht
  rcases ht with rfl | rfl | rfl | rfl | rfl | rfl | rfl | rfl | rfl | rfl | rfl | rfl | rfl <;> cases reg <;> kernel_rfl

def checkF (o : Int) (r : Bool) (d s f i : Int) : Int :=
  if formS o < 0 then 6 else if r3B o r then 12 else if r4B d s f i (usesT (formS o) r) then 12 else if !regB d || !regB s then 5 else if r6B o f i then 4 else 0

theorem checkF_0 {o : Int} {r : Bool} {d s f i : Int}  (h : decide (formS o < 0) = true) : checkF o r d s f i = 6 := by
  unfold checkF
  rw [if_pos (of_decide_eq_true h)]
theorem checkF_1 {o : Int} {r : Bool} {d s f i : Int} (h0 : decide (formS o < 0) = false) (h : r3B o r = true) : checkF o r d s f i = 12 := by
  unfold checkF
  rw [if_neg (of_decide_eq_false h0), if_pos h]
theorem checkF_2 {o : Int} {r : Bool} {d s f i : Int} {u : Bool × Bool × Bool × Bool} (h0 : decide (formS o < 0) = false) (h1 : r3B o r = false) (hu : usesT (formS o) r = u) (h : r4B d s f i u = true) : checkF o r d s f i = 12 := by
  unfold checkF
  rw [if_neg (of_decide_eq_false h0), if_neg (by simp [h1]), if_pos (by rw [hu]; exact h)]
theorem checkF_3 {o : Int} {r : Bool} {d s f i : Int} {u : Bool × Bool × Bool × Bool} (h0 : decide (formS o < 0) = false) (h1 : r3B o r = false) (hu : usesT (formS o) r = u) (h2 : r4B d s f i u = false) (h : (!regB d || !regB s) = true) : checkF o r d s f i = 5 := by
  unfold checkF
  rw [if_neg (of_decide_eq_false h0), if_neg (by simp [h1]), if_neg (by simp [hu, h2]), if_pos h]
theorem checkF_4 {o : Int} {r : Bool} {d s f i : Int} {u : Bool × Bool × Bool × Bool} (h0 : decide (formS o < 0) = false) (h1 : r3B o r = false) (hu : usesT (formS o) r = u) (h2 : r4B d s f i u = false) (h3 : (!regB d || !regB s) = false) (h : r6B o f i = true) : checkF o r d s f i = 4 := by
  unfold checkF
  rw [if_neg (of_decide_eq_false h0), if_neg (by simp [h1]), if_neg (by simp [hu, h2]), if_neg (by rw [h3]; decide), if_pos h]
theorem checkF_5 {o : Int} {r : Bool} {d s f i : Int} {u : Bool × Bool × Bool × Bool} (h0 : decide (formS o < 0) = false) (h1 : r3B o r = false) (hu : usesT (formS o) r = u) (h2 : r4B d s f i u = false) (h3 : (!regB d || !regB s) = false) (h4 : r6B o f i = false) : checkF o r d s f i = 0 := by
  unfold checkF
  rw [if_neg (of_decide_eq_false h0), if_neg (by simp [h1]), if_neg (by simp [hu, h2]), if_neg (by rw [h3]; decide), if_neg (by simp [h4])]

set_option maxRecDepth 100000 in
set_option maxHeartbeats 4000000 in
theorem check_any (o : Int) (r : Bool) (d s f im : Int) (w : World) (hG : GG w) : Calls Tryd.prog 55 #[.agg #[.int .i64 o, .bool r, .int .i64 d, .int .i64 s, .int .i64 f, .int .i64 im]] w fun e w' =>
    e = .returned (.int .i64 (checkF o r d s f im)) ∧ Below w.heap.size w w' := by
  obtain ⟨u, hu⟩ : ∃ u, usesT (formS o) r = u := ⟨_, rfl⟩
  have hB : Below w.heap.size w (w.alloc (.cells #[.int .i64 o, .bool r, .int .i64 d, .int .i64 s, .int .i64 f, .int .i64 im] 23)) := (Below.refl _ w).alloc (Nat.le_refl _) _
  have hX : ∀ w1, Below (w.heap.size + 1) (w.alloc (.cells #[.int .i64 o, .bool r, .int .i64 d, .int .i64 s, .int .i64 f, .int .i64 im] 23)) w1 →
      w1.cell? ⟨w.heap.size, 0, none⟩ = some (.int .i64 o) ∧ w1.cell? ⟨w.heap.size, 1, none⟩ = some (.bool r) ∧ w1.cell? ⟨w.heap.size, 2, none⟩ = some (.int .i64 d) ∧ w1.cell? ⟨w.heap.size, 3, none⟩ = some (.int .i64 s) ∧ w1.cell? ⟨w.heap.size, 4, none⟩ = some (.int .i64 f) ∧ w1.cell? ⟨w.heap.size, 5, none⟩ = some (.int .i64 im) := by
    intro w1 hb
    refine ⟨?_, ?_, ?_, ?_, ?_, ?_⟩
    all_goals (rw [hb.cell (by simp)]; simp)
  go_enter Tryd.func55, Tryd.ntmps55
  go_wp2_with fail
  refine (insn_Uses.calls 10 o r u.1 u.2.1 u.2.2.1 u.2.2.2 _ ((uses_f o r).trans (by rw [hu])) (G_at hG hB)).mono ?_
  rintro e w1 ⟨rfl, hb1⟩
  have hb1 : Below (w.heap.size + 1) (w.alloc (.cells #[.int .i64 o, .bool r, .int .i64 d, .int .i64 s, .int .i64 f, .int .i64 im] 23)) w1 := by simpa using hb1
  have hs1 : w.heap.size + 1 ≤ w1.heap.size := by have := hb1.size; simpa using this
  go_wp2_with fail
  refine (rules_any _).mono ?_
  rintro e w2 ⟨b, hb, hbl, rfl, q0, p0, p1, p2, p3, p4, p5, p6, p7, p8, p9, hb2⟩
  go_wp2_with fail
  have hw2 : w.heap.size ≤ w2.heap.size := by have := hb2.size; simp at this; omega
  have hb1' : Below w.heap.size w w1 := hB.trans (hb1.mono (by omega))
  have hB2 : Below w.heap.size w w2 := (hb1'.alloc (by omega) _).trans (hb2.mono (by simp; omega))
  have hb2' : Below (w.heap.size + 1) w1 w2 := ((Below.refl _ _).alloc (by omega) _).trans (hb2.mono (by simp; omega))
  obtain ⟨x0, x1, x2, x3, x4, x5⟩ := hX w2 (hb1.trans hb2')
  have y0 : w2.cell? ⟨w1.heap.size, 0, none⟩ = some (.bool u.1) := (hb2.cell (by simp)).trans (by simp)
  have y1 : w2.cell? ⟨w1.heap.size, 1, none⟩ = some (.bool u.2.1) := (hb2.cell (by simp)).trans (by simp)
  have y2 : w2.cell? ⟨w1.heap.size, 2, none⟩ = some (.bool u.2.2.1) := (hb2.cell (by simp)).trans (by simp)
  have y3 : w2.cell? ⟨w1.heap.size, 3, none⟩ = some (.bool u.2.2.2) := (hb2.cell (by simp)).trans (by simp)
  have hw1 : w1.heap.size < w2.heap.size := by have := hb2.size; simp at this; omega
  clear hX hb1 hb1' hb2 hb2' hB
  go_loopw [13] (fun i wr => ∃ k : Nat, k ≤ 5 ∧ i = .int .i64 k ∧ (0 < k → (decide (formS o < 0)) = false) ∧ (1 < k → r3B o r = false) ∧ (2 < k → r4B d s f im u = false) ∧ (3 < k → (!regB d || !regB s) = false) ∧ (4 < k → r6B o f im = false) ∧ Below w2.heap.size w2 wr)
    (fun i _ => 5 - (intOf i).toNat)
  case atStart => exact ⟨0, by omega, rfl, fun h => by omega, fun h => by omega, fun h => by omega, fun h => by omega, fun h => by omega, Below.refl _ _⟩
  case round =>
    obtain ⟨k, hk, rfl, h0, h1, h2, h3, h4, hnx⟩ := hrel
    have x0 := (hnx.cell (p := ⟨w.heap.size, 0, none⟩) (by show w.heap.size < w2.heap.size; omega)).trans x0
    have x1 := (hnx.cell (p := ⟨w.heap.size, 1, none⟩) (by show w.heap.size < w2.heap.size; omega)).trans x1
    have x2 := (hnx.cell (p := ⟨w.heap.size, 2, none⟩) (by show w.heap.size < w2.heap.size; omega)).trans x2
    have x3 := (hnx.cell (p := ⟨w.heap.size, 3, none⟩) (by show w.heap.size < w2.heap.size; omega)).trans x3
    have x4 := (hnx.cell (p := ⟨w.heap.size, 4, none⟩) (by show w.heap.size < w2.heap.size; omega)).trans x4
    have x5 := (hnx.cell (p := ⟨w.heap.size, 5, none⟩) (by show w.heap.size < w2.heap.size; omega)).trans x5
    have y0 := (hnx.cell (p := ⟨w1.heap.size, 0, none⟩) hw1).trans y0
    have y1 := (hnx.cell (p := ⟨w1.heap.size, 1, none⟩) hw1).trans y1
    have y2 := (hnx.cell (p := ⟨w1.heap.size, 2, none⟩) hw1).trans y2
    have y3 := (hnx.cell (p := ⟨w1.heap.size, 3, none⟩) hw1).trans y3
    have lx : w.heap.size < wr.heap.size := by have := hnx.size; omega
    have ly : w1.heap.size < wr.heap.size := by have := hnx.size; omega
    obtain rfl | rfl | rfl | rfl | rfl | rfl : k = 0 ∨ k = 1 ∨ k = 2 ∨ k = 3 ∨ k = 4 ∨ k = 5 := by omega
    · have c0 : wr.cell? ⟨b + 1, 0, none⟩ = some (.func (.func 120) #[] #[]) := (hnx.cell (p := ⟨b + 1, 0, none⟩) hbl).trans p0
      have c1 : wr.cell? ⟨b + 1, 1, none⟩ = some (.int .i64 6) := (hnx.cell (p := ⟨b + 1, 1, none⟩) hbl).trans p1
      clear p0 p1 p2 p3 p4 p5 p6 p7 p8 p9
      go_wp2_with fail
      have hA : Below wr.heap.size wr (wr.alloc (.cells #[.func (.func 120) #[] #[], .int .i64 6] 117)) := (Below.refl _ _).alloc (Nat.le_refl _) _
      have hn2 := hnx.trans (hA.mono hnx.size)
      have hGr := G_at hG (hB2.trans (hn2.mono hw2))
      refine (r2_any o r d s f im u _ hGr).mono ?_
      rintro e w3 ⟨rfl, hb3⟩
      have hn3 := hn2.trans (hb3.mono hn2.size)
      have e0 : w3.cell? ⟨wr.heap.size, 1, none⟩ = some (.int .i64 6) := (hb3.cell (p := ⟨wr.heap.size, 1, none⟩) (by simp)).trans (by simp)
      clear hb3 hA hGr c0 c1
      cases hr : (decide (formS o < 0)) with
      | true =>
        go_wp2_with fail
        go_ret
        exact ⟨by rw [checkF_0 hr]; rfl, hB2.trans (hn3.mono hw2)⟩
      | false =>
        go_wp2_with fail
        go_roundw
        case rel => exact ⟨1, by omega, by go_num, fun _ => hr, fun h => by omega, fun h => by omega, fun h => by omega, fun h => by omega, hn3⟩
        case measure => simp [intOf]
    · have c0 : wr.cell? ⟨b + 1, 2, none⟩ = some (.func (.func 121) #[] #[]) := (hnx.cell (p := ⟨b + 1, 2, none⟩) hbl).trans p2
      have c1 : wr.cell? ⟨b + 1, 3, none⟩ = some (.int .i64 12) := (hnx.cell (p := ⟨b + 1, 3, none⟩) hbl).trans p3
      have v0 := h0 (by omega)
      clear p0 p1 p2 p3 p4 p5 p6 p7 p8 p9
      go_wp2_with fail
      have hA : Below wr.heap.size wr (wr.alloc (.cells #[.func (.func 121) #[] #[], .int .i64 12] 117)) := (Below.refl _ _).alloc (Nat.le_refl _) _
      have hn2 := hnx.trans (hA.mono hnx.size)
      have hGr := G_at hG (hB2.trans (hn2.mono hw2))
      refine (r3_any o r d s f im u _ hGr).mono ?_
      rintro e w3 ⟨rfl, hb3⟩
      have hn3 := hn2.trans (hb3.mono hn2.size)
      have e0 : w3.cell? ⟨wr.heap.size, 1, none⟩ = some (.int .i64 12) := (hb3.cell (p := ⟨wr.heap.size, 1, none⟩) (by simp)).trans (by simp)
      clear hb3 hA hGr c0 c1
      cases hr : (r3B o r) with
      | true =>
        go_wp2_with fail
        go_ret
        exact ⟨by rw [checkF_1 v0 hr]; rfl, hB2.trans (hn3.mono hw2)⟩
      | false =>
        go_wp2_with fail
        go_roundw
        case rel => exact ⟨2, by omega, by go_num, fun _ => v0, fun _ => hr, fun h => by omega, fun h => by omega, fun h => by omega, hn3⟩
        case measure => simp [intOf]
    · have c0 : wr.cell? ⟨b + 1, 4, none⟩ = some (.func (.func 122) #[] #[]) := (hnx.cell (p := ⟨b + 1, 4, none⟩) hbl).trans p4
      have c1 : wr.cell? ⟨b + 1, 5, none⟩ = some (.int .i64 12) := (hnx.cell (p := ⟨b + 1, 5, none⟩) hbl).trans p5
      have v0 := h0 (by omega)
      have v1 := h1 (by omega)
      clear p0 p1 p2 p3 p4 p5 p6 p7 p8 p9
      go_wp2_with fail
      have hA : Below wr.heap.size wr (wr.alloc (.cells #[.func (.func 122) #[] #[], .int .i64 12] 117)) := (Below.refl _ _).alloc (Nat.le_refl _) _
      have hn2 := hnx.trans (hA.mono hnx.size)
      have hGr := G_at hG (hB2.trans (hn2.mono hw2))
      refine (r4_any o r d s f im u _ hGr).mono ?_
      rintro e w3 ⟨rfl, hb3⟩
      have hn3 := hn2.trans (hb3.mono hn2.size)
      have e0 : w3.cell? ⟨wr.heap.size, 1, none⟩ = some (.int .i64 12) := (hb3.cell (p := ⟨wr.heap.size, 1, none⟩) (by simp)).trans (by simp)
      clear hb3 hA hGr c0 c1
      cases hr : (r4B d s f im u) with
      | true =>
        go_wp2_with fail
        go_ret
        exact ⟨by rw [checkF_2 v0 v1 hu hr]; rfl, hB2.trans (hn3.mono hw2)⟩
      | false =>
        go_wp2_with fail
        go_roundw
        case rel => exact ⟨3, by omega, by go_num, fun _ => v0, fun _ => v1, fun _ => hr, fun h => by omega, fun h => by omega, hn3⟩
        case measure => simp [intOf]
    · have c0 : wr.cell? ⟨b + 1, 6, none⟩ = some (.func (.func 123) #[] #[.pointer (some ⟨b, 0, none⟩)]) := (hnx.cell (p := ⟨b + 1, 6, none⟩) hbl).trans p6
      have c1 : wr.cell? ⟨b + 1, 7, none⟩ = some (.int .i64 5) := (hnx.cell (p := ⟨b + 1, 7, none⟩) hbl).trans p7
      have v0 := h0 (by omega)
      have v1 := h1 (by omega)
      have v2 := h2 (by omega)
      clear p0 p1 p2 p3 p4 p5 p6 p7 p8 p9
      go_wp2_with fail
      have hA : Below wr.heap.size wr (wr.alloc (.cells #[.func (.func 123) #[] #[.pointer (some ⟨b, 0, none⟩)], .int .i64 5] 117)) := (Below.refl _ _).alloc (Nat.le_refl _) _
      have hn2 := hnx.trans (hA.mono hnx.size)
      have hGr := G_at hG (hB2.trans (hn2.mono hw2))
      have hq := (hn2.cell (p := ⟨b, 0, none⟩) (by show b < w2.heap.size; omega)).trans q0
      refine (r5_any b o r d s f im u _ hGr hq).mono ?_
      rintro e w3 ⟨rfl, hb3⟩
      have hn3 := hn2.trans (hb3.mono hn2.size)
      have e0 : w3.cell? ⟨wr.heap.size, 1, none⟩ = some (.int .i64 5) := (hb3.cell (p := ⟨wr.heap.size, 1, none⟩) (by simp)).trans (by simp)
      clear hb3 hA hGr c0 c1
      cases hr : (!regB d || !regB s) with
      | true =>
        go_wp2_with fail
        go_ret
        exact ⟨by rw [checkF_3 v0 v1 hu v2 hr]; rfl, hB2.trans (hn3.mono hw2)⟩
      | false =>
        go_wp2_with fail
        go_roundw
        case rel => exact ⟨4, by omega, by go_num, fun _ => v0, fun _ => v1, fun _ => v2, fun _ => hr, fun h => by omega, hn3⟩
        case measure => simp [intOf]
    · have c0 : wr.cell? ⟨b + 1, 8, none⟩ = some (.func (.func 124) #[] #[]) := (hnx.cell (p := ⟨b + 1, 8, none⟩) hbl).trans p8
      have c1 : wr.cell? ⟨b + 1, 9, none⟩ = some (.int .i64 4) := (hnx.cell (p := ⟨b + 1, 9, none⟩) hbl).trans p9
      have v0 := h0 (by omega)
      have v1 := h1 (by omega)
      have v2 := h2 (by omega)
      have v3 := h3 (by omega)
      clear p0 p1 p2 p3 p4 p5 p6 p7 p8 p9
      go_wp2_with fail
      have hA : Below wr.heap.size wr (wr.alloc (.cells #[.func (.func 124) #[] #[], .int .i64 4] 117)) := (Below.refl _ _).alloc (Nat.le_refl _) _
      have hn2 := hnx.trans (hA.mono hnx.size)
      have hGr := G_at hG (hB2.trans (hn2.mono hw2))
      refine (r6_any o r d s f im u _ hGr).mono ?_
      rintro e w3 ⟨rfl, hb3⟩
      have hn3 := hn2.trans (hb3.mono hn2.size)
      have e0 : w3.cell? ⟨wr.heap.size, 1, none⟩ = some (.int .i64 4) := (hb3.cell (p := ⟨wr.heap.size, 1, none⟩) (by simp)).trans (by simp)
      clear hb3 hA hGr c0 c1
      cases hr : (r6B o f im) with
      | true =>
        go_wp2_with fail
        go_ret
        exact ⟨by rw [checkF_4 v0 v1 hu v2 v3 hr]; rfl, hB2.trans (hn3.mono hw2)⟩
      | false =>
        go_wp2_with fail
        go_roundw
        case rel => exact ⟨5, by omega, by go_num, fun _ => v0, fun _ => v1, fun _ => v2, fun _ => v3, fun _ => hr, hn3⟩
        case measure => simp [intOf]
    · have v0 := h0 (by omega)
      have v1 := h1 (by omega)
      have v2 := h2 (by omega)
      have v3 := h3 (by omega)
      have v4 := h4 (by omega)
      go_wp2_with fail
      go_ret
      exact ⟨by rw [checkF_5 v0 v1 hu v2 v3 v4]; rfl, hB2.trans (hnx.mono hw2)⟩

def insn_Check.f (a0_0 : Int) (a0_1 : Bool) (a0_2 a0_3 a0_4 a0_5 : Int) : Option Int := some (checkF a0_0 a0_1 a0_2 a0_3 a0_4 a0_5)
theorem insn_Check.calls (a0_0 : Int) (a0_1 : Bool) (a0_2 : Int) (a0_3 : Int) (a0_4 : Int) (a0_5 : Int) (r : Int) (w : World) (h : insn_Check.f a0_0 a0_1 a0_2 a0_3 a0_4 a0_5 = some r) (hG : GG w) :
    Calls Tryd.prog 55 #[.agg #[.int .i64 a0_0, .bool a0_1, .int .i64 a0_2, .int .i64 a0_3, .int .i64 a0_4, .int .i64 a0_5]] w fun e w' => e = .returned (.int .i64 r) ∧ Below w.heap.size w w' := by
  obtain rfl := Option.some.inj h
  exact check_any _ _ _ _ _ _ w hG
end Go.Proofs.YtnllfppkfdnjpabDoor.Q
