/- The plain laws of layer 12: what the printed functions compute answers as the statements say. -/
import Derived.Test.YtgdfeehpbccbnaaDoorSlo
import Derived.Test.YtgdfeehpbccbnaaDoorYx3
import Derived.Test.YtgdfeehpbccbnaaDoorYx3
import Derived.Test.YtgdfeehpbccbnaaDoorYx3
import Derived.Test.YtgdfeehpbccbnaaDoorYx4
import Derived.Test.YtgdfeehpbccbnaaDoorYx4
import Derived.Test.YtgdfeehpbccbnaaDoorYx4
namespace Go.Proofs.YtgdfeehpbccbnaaDoor.Q
open Go Go.RowKit Go.Proofs.YtgdfeehpbccbnaaDoor.Ops Go.Proofs.YtgdfeehpbccbnaaDoorW.PrintWords

theorem rform_all : (List.range 86).map (fun n => slotcoderef03_Form.f 5 (Int.ofNat n)) = (List.range 86).map (fun n => some (formS (Int.ofNat n))) := by kernel_rfl
theorem form_small : (List.range 86).map (fun n => decide (0 ≤ formS (Int.ofNat n)) && decide (formS (Int.ofNat n) ≤ 11)) = (List.range 86).map (fun _ => true) := by kernel_rfl
theorem right_f (n : Int) : slotcoderef03_Right.f n = some (decide (Is n)) := by
  unfold slotcoderef03_Right.f
  by_cases h0 : n ≥ 0
  · rw [if_pos h0]
    congr 1
    rw [decide_eq_decide]
    exact ⟨fun h => ⟨h0, by omega⟩, fun h => by have := h.2; omega⟩
  · rw [if_neg h0]
    congr 1
    rw [eq_comm, decide_eq_false_iff_not]
    exact fun h => h0 h.1
theorem in_rangeQ {α : Type} {f g : Int → α} (h : (List.range 86).map (fun n => f (Int.ofNat n)) = (List.range 86).map (fun n => g (Int.ofNat n))) (n : Int) (hn : Is n) : f n = g n := by
  obtain ⟨m, rfl⟩ := Int.eq_ofNat_of_zero_le hn.1
  exact of_range h m (by have := hn.2; omega)
theorem formS_out {n : Int} (h : ¬ Is n) : formS n = -1 := by simp only [formS, rowS, if_neg h]
theorem form_f (k : Nat) (hk : 5 ≤ k) (n : Int) : slotcoderef03_Form.f k n = some (formS n) := by
  refine at_rounds (g := fun k => slotcoderef03_Form.f k n) (fun k => slotcoderef03_Form.mono n k) hk ?_
  by_cases h : Is n
  · exact in_rangeQ (f := fun n => slotcoderef03_Form.f 5 n) (g := fun n => some (formS n)) rform_all n h
  · show slotcoderef03_Form.f 5 n = _
    unfold slotcoderef03_Form.f
    rw [right_f, decide_eq_false h]
    simp only [Option.bind_some, Bool.false_eq_true, if_false, formS_out h]
theorem formS_range (n : Int) : -1 ≤ formS n ∧ formS n ≤ 11 := by
  by_cases h : Is n
  · have := in_rangeQ (f := fun n => decide (0 ≤ formS n) && decide (formS n ≤ 11)) (g := fun _ => true) form_small n h
    simp only [Bool.and_eq_true, decide_eq_true_eq] at this
    omega
  · rw [formS_out h]; omega
theorem slots_f (k : Nat) (hk : 5 ≤ k) (n : Int) : slotcoderef04_Slots.f k n = some (slF n) := by
  unfold slotcoderef04_Slots.f
  rw [form_f k hk]
  simp only [Option.bind_some]
  have h1 := formS_range n
  by_cases h0 : Is n
  · have h2 := in_rangeQ (f := fun n => decide (0 ≤ formS n) && decide (formS n ≤ 11)) (g := fun _ => true) form_small n h0
    simp only [Bool.and_eq_true, decide_eq_true_eq] at h2
    rw [if_neg (show ¬ formS n < 0 by omega)]
    unfold slF
    by_cases h3 : formS n = 10
    · rw [h3]; rfl
    · by_cases h4 : formS n = 11
      · rw [h4]; rfl
      · rw [if_neg (show ¬ formS n ≥ 10 by omega), if_neg (show ¬ formS n = -1 by omega), if_neg h3, if_neg h4]
  · unfold slF
    rw [formS_out h0]
    rfl

theorem start_l0 (l : List S48) (hl : l.length ≤ 65536) (i : Nat) (hi : i ≤ l.length) : ∀ (d x k : Nat), x + d = i → d + 6 ≤ k → slotcoderef12_Start.l0 k l i (startF l x) x = some (startF l i)
  | 0, x, k, h, hk => by
    obtain ⟨k, rfl⟩ : ∃ m, k = m + 1 := ⟨k - 1, by omega⟩
    simp only [slotcoderef12_Start.l0]
    rw [if_neg (by omega)]
    have : x = i := by omega
    rw [this]
  | d + 1, x, k, h, hk => by
    obtain ⟨k, rfl⟩ : ∃ m, k = m + 1 := ⟨k - 1, by omega⟩
    have hw : wrap64 ((x : Int) + 1) = ((x + 1 : Nat) : Int) := by unfold wrap64; omega
    simp only [slotcoderef12_Start.l0]
    rw [if_pos (by omega), if_pos (by omega), if_pos (by omega), slots_f k (by omega)]
    simp only [Option.bind_some]
    rw [hw]
    exact start_l0 l hl i hi d (x + 1) k (by omega) (by omega)
theorem start_f (l : List S48) (hl : l.length ≤ 65536) (i : Nat) (hi : i ≤ l.length) (k : Nat) (hk : i + 6 ≤ k) : slotcoderef12_Start.f k l i = some (startF l i) := start_l0 l hl i hi i 0 k (by omega) hk

theorem at_l0 (l : List S48) (hl : l.length ≤ 65536) (slot : Int) : ∀ (d x k : Nat), x + d = l.length → d + 6 ≤ k → slotcoderef12_At.l0 k l slot (startF l x) x = some (atFrom l slot d x)
  | 0, x, k, h, hk => by
    obtain ⟨k, rfl⟩ : ∃ m, k = m + 1 := ⟨k - 1, by omega⟩
    simp only [slotcoderef12_At.l0]
    rw [if_neg (by omega)]
    rfl
  | d + 1, x, k, h, hk => by
    obtain ⟨k, rfl⟩ : ∃ m, k = m + 1 := ⟨k - 1, by omega⟩
    have hw : wrap64 ((x : Int) + 1) = ((x + 1 : Nat) : Int) := by unfold wrap64; omega
    simp only [slotcoderef12_At.l0]
    rw [if_pos (by omega)]
    unfold atFrom
    by_cases e : startF l x = slot
    · rw [if_pos e, if_pos e]
    · rw [if_neg e, if_neg e, if_pos (by omega), slots_f k (by omega)]
      simp only [Option.bind_some]
      rw [hw]
      exact at_l0 l hl slot d (x + 1) k (by omega) (by omega)
theorem rat_f (l : List S48) (hl : l.length ≤ 65536) (slot : Int) (k : Nat) (hk : l.length + 6 ≤ k) : slotcoderef12_At.f k l slot = some (atF l slot) := at_l0 l hl slot l.length 0 k (by omega) hk

theorem alive20 : slotcodelaw12_alive.f 20 = some true := by kernel_rfl
theorem alive_f (k : Nat) (hk : 20 ≤ k) : slotcodelaw12_alive.f k = some true := at_rounds (g := fun k => slotcodelaw12_alive.f k) (fun k => slotcodelaw12_alive.mono k) hk alive20

theorem startsF_length (l : List S48) : (startsF l).length = l.length := by simp [startsF]
theorem rd_startsF (l : List S48) (i : Nat) (h : i < l.length) : rd (startsF l) (i : Int) = startF l i := by
  simp [rd, startsF, h]

/-! LayoutAt -/
theorem layoutAt_true (l : List S48) (slot : Int) : slotcodelaw12_LayoutAt.f 400 l slot = some true := by
  unfold slotcodelaw12_LayoutAt.f
  rw [alive_f 400 (by omega)]
  by_cases h : (l.length : Int) > 100
  · rw [if_pos h]; rfl
  · rw [if_neg h]
    simp only [Option.bind_some, if_true]
    rw [rat_f l (by omega) slot 400 (by omega)]
    simp only [layout_At.f, if_pos (show l.length ≤ 65536 by omega), Option.bind_some, beq_self_eq_true]

/-! LayoutStarts -/
theorem starts_l0 (l : List S48) (hl : l.length ≤ 100) : ∀ (d x k : Nat), x + d = l.length → d + 200 ≤ k → slotcodelaw12_LayoutStarts.l0 k l (startsF l) l.length x = some true
  | 0, x, k, h, hk => by
    obtain ⟨k, rfl⟩ : ∃ m, k = m + 1 := ⟨k - 1, by omega⟩
    simp only [slotcodelaw12_LayoutStarts.l0]
    rw [if_neg (by omega), alive_f k (by omega)]
    rfl
  | d + 1, x, k, h, hk => by
    obtain ⟨k, rfl⟩ : ∃ m, k = m + 1 := ⟨k - 1, by omega⟩
    have hw : wrap64 ((x : Int) + 1) = ((x + 1 : Nat) : Int) := by unfold wrap64; omega
    simp only [slotcodelaw12_LayoutStarts.l0]
    rw [if_pos (by omega), if_pos (by omega), if_pos (by rw [startsF_length]; omega), start_f l (by omega) x (by omega) k (by omega), hw]
    simp only [Option.bind_some]
    rw [if_pos (rd_startsF l x (by omega))]
    exact starts_l0 l hl d (x + 1) k (by omega) (by omega)
theorem layoutStarts_true (l : List S48) : slotcodelaw12_LayoutStarts.f 400 l = some true := by
  unfold slotcodelaw12_LayoutStarts.f
  by_cases h : (l.length : Int) > 100
  · rw [if_pos h, alive_f 400 (by omega)]; rfl
  · rw [if_neg h]
    simp only [layout_Starts.f, if_pos (show l.length ≤ 65536 by omega), Option.bind_some, startsF_length, if_true]
    rw [start_f l (by omega) l.length (Nat.le_refl _) 400 (by omega)]
    simp only [Option.bind_some, bne_self_eq_false]
    show slotcodelaw12_LayoutStarts.j0 (399 + 1) l (startsF l) false = _
    simp only [slotcodelaw12_LayoutStarts.j0, Bool.false_eq_true, if_false, startsF_length]
    exact starts_l0 l (by omega) l.length 0 399 (by omega) (by omega)

/-! The sizes -/
theorem startF_range (l : List S48) : ∀ k : Nat, k ≤ 1000 → 0 ≤ startF l k ∧ startF l k ≤ 2 * k
  | 0, _ => by unfold startF; omega
  | k + 1, h => by
    have ih := startF_range l k (by omega)
    have hs := slF_range (rd_T48 l k).f0
    unfold startF wrap64
    omega
theorem startF_succ (l : List S48) (k : Nat) (h : k ≤ 1000) : startF l (k + 1) = startF l k + slF (rd_T48 l k).f0 := by
  have ih := startF_range l k h
  have hs := slF_range (rd_T48 l k).f0
  show wrap64 _ = _
  unfold wrap64
  omega

theorem in_f (l : List S48) (i : Int) : layout_in.f l i = some (decide (0 ≤ i ∧ i < l.length)) := by
  unfold layout_in.f
  by_cases h : i ≥ 0
  · rw [if_pos h]; congr 1; rw [decide_eq_decide]; omega
  · rw [if_neg h]; congr 1; rw [eq_comm, decide_eq_false_iff_not]; omega
theorem rin_f (l : List S48) (i : Int) : slotcoderef12_In.f l i = some (decide (0 ≤ i ∧ i < l.length)) := by
  unfold slotcoderef12_In.f
  by_cases h : i ≥ 0
  · rw [if_pos h]; congr 1; rw [decide_eq_decide]; omega
  · rw [if_neg h]; congr 1; rw [eq_comm, decide_eq_false_iff_not]; omega

def distF (l : List S48) (a b : Nat) : Int := startF l b - startF l (a + 1)
theorem dist_in (l : List S48) (hl : l.length ≤ 100) (a b : Nat) (ha : a < l.length) (hb : b < l.length) (k : Nat) (hk : 1 ≤ k) : layout_Distance.f k l a b = some (distF l a b, true) := by
  obtain ⟨k, rfl⟩ : ∃ m, k = m + 1 := ⟨k - 1, by omega⟩
  unfold layout_Distance.f
  rw [in_f, in_f, decide_eq_true (by omega), decide_eq_true (by omega)]
  simp only [Option.bind_some, if_true, Bool.not_true, layout_Distance.j0, Bool.false_eq_true, if_false, layout_Starts.f, if_pos (show l.length ≤ 65536 by omega), startsF_length]
  rw [if_pos (by omega), if_pos (by omega), if_pos (by omega), if_pos (by omega), if_pos (by omega), insn_Slots_f, rd_startsF l a ha, rd_startsF l b hb]
  simp only [Option.bind_some]
  have h1 := startF_range l a (by omega)
  have h2 := startF_range l b (by omega)
  have h3 := startF_succ l a (by omega)
  have hs := slF_range (rd_T48 l a).f0
  have : wrap64 (wrap64 (startF l b - startF l a) - slF (rd_T48 l a).f0) = distF l a b := by unfold distF; rw [h3]; unfold wrap64; omega
  rw [this]
theorem dist_out (l : List S48) (a b : Int) (h : ¬ ((0 ≤ a ∧ a < l.length) ∧ (0 ≤ b ∧ b < l.length))) (k : Nat) (hk : 1 ≤ k) : layout_Distance.f k l a b = some (0, false) := by
  obtain ⟨k, rfl⟩ : ∃ m, k = m + 1 := ⟨k - 1, by omega⟩
  unfold layout_Distance.f
  rw [in_f, in_f]
  by_cases h1 : 0 ≤ a ∧ a < (l.length : Int)
  · rw [decide_eq_true h1, decide_eq_false (fun h2 => h ⟨h1, h2⟩)]
    simp only [Option.bind_some, if_true, Bool.not_false, layout_Distance.j0]
  · rw [decide_eq_false h1]
    simp only [Option.bind_some, Bool.false_eq_true, if_false, layout_Distance.j0, if_true]

theorem layoutDistances_true (l : List S48) (a b : Int) : slotcodelaw12_LayoutDistances.f 400 l a b = some true := by
  unfold slotcodelaw12_LayoutDistances.f
  by_cases h : (l.length : Int) > 100
  · rw [if_pos h, alive_f 400 (by omega)]; rfl
  · rw [if_neg h, rin_f, rin_f]
    by_cases h1 : (0 ≤ a ∧ a < (l.length : Int)) ∧ (0 ≤ b ∧ b < (l.length : Int))
    · obtain ⟨a, rfl⟩ := Int.eq_ofNat_of_zero_le h1.1.1
      obtain ⟨b, rfl⟩ := Int.eq_ofNat_of_zero_le h1.2.1
      have e1 : wrap64 ((a : Int) + 1) = ((a + 1 : Nat) : Int) := by unfold wrap64; omega
      rw [dist_in l (by omega) a b (by omega) (by omega) 400 (by omega), decide_eq_true h1.1, decide_eq_true h1.2]
      simp only [Option.bind_some, if_true, Bool.not_true]
      show slotcodelaw12_LayoutDistances.j0 (399 + 1) l a b _ true false = _
      simp only [slotcodelaw12_LayoutDistances.j0, Bool.false_eq_true, if_false]
      rw [alive_f 399 (by omega), e1, start_f l (by omega) b (by omega) 399 (by omega), start_f l (by omega) (a + 1) (by omega) 399 (by omega)]
      simp only [Option.bind_some, if_true]
      have h2 := startF_range l b (by omega)
      have h3 := startF_range l (a + 1) (by omega)
      have : wrap64 (startF l b - startF l (a + 1)) = distF l a b := by unfold distF wrap64; omega
      rw [this, beq_self_eq_true]
    · rw [dist_out l a b h1 400 (by omega)]
      have hj : slotcodelaw12_LayoutDistances.j0 400 l a b 0 false true = some true := by
        show slotcodelaw12_LayoutDistances.j0 (399 + 1) l a b 0 false true = _
        simp only [slotcodelaw12_LayoutDistances.j0, if_true]
        rw [alive_f 399 (by omega)]
        rfl
      simp only [Option.bind_some]
      by_cases h2 : 0 ≤ a ∧ a < (l.length : Int)
      · rw [decide_eq_true h2, decide_eq_false (fun h3 => h1 ⟨h2, h3⟩)]
        simpa using hj
      · rw [decide_eq_false h2]
        simpa using hj

/-! Targets -/
theorem startF_congr (l l' : List S48) : ∀ k : Nat, (∀ j : Nat, j < k → rd_T48 l j = rd_T48 l' j) → startF l k = startF l' k
  | 0, _ => rfl
  | k + 1, h => by
    unfold startF
    rw [startF_congr l l' k (fun j hj => h j (by omega)), h k (by omega)]
theorem startF_take (l : List S48) (m : Nat) : startF (l.take m) m = startF l m := by
  refine startF_congr _ _ m fun j hj => ?_
  simp only [rd_T48, Int.toNat_natCast, List.getD_eq_getElem?_getD, List.getElem?_take, if_pos hj]
theorem mx_pos {a : Int} (h : 0 ≤ a) : mx a 0 = a := by unfold mx; split <;> omega
theorem mx_neg : mx (-1) 0 = 0 := by unfold mx; split <;> omega
theorem atFrom_range (l : List S48) (slot : Int) : ∀ (d k : Nat), atFrom l slot d k = -1 ∨ ∃ j : Nat, k ≤ j ∧ j < k + d ∧ atFrom l slot d k = j ∧ startF l j = slot
  | 0, _ => .inl rfl
  | d + 1, k => by
    unfold atFrom
    by_cases e : startF l k = slot
    · rw [if_pos e]; exact .inr ⟨k, by omega, by omega, rfl, e⟩
    · rw [if_neg e]
      rcases atFrom_range l slot d (k + 1) with h | ⟨j, h1, h2, h3, h4⟩
      · exact .inl h
      · exact .inr ⟨j, by omega, by omega, h3, h4⟩
theorem atF_far (l : List S48) (hl : l.length ≤ 100) (slot : Int) (h : slot < 0 ∨ slot > 200) : atF l slot = -1 := by
  rcases atFrom_range l slot l.length 0 with h1 | ⟨j, _, h2, _, h4⟩
  · exact h1
  · have := startF_range l j (by omega)
    omega

def targF (l : List S48) (a : Nat) (off : Int) : Int := atF l (startF l (a + 1) + off)
theorem targ_in (l : List S48) (hl : l.length ≤ 100) (a : Nat) (ha : a < l.length) (off : Int) (h1 : off ≤ 2147483647) (h2 : -2147483648 ≤ off) (k : Nat) (hk : 1 ≤ k) :
    layout_Target.f k l a off = some (mx (targF l a off) 0, decide (targF l a off ≥ 0)) := by
  obtain ⟨k, rfl⟩ : ∃ m, k = m + 1 := ⟨k - 1, by omega⟩
  have e1 : wrap64 ((a : Int) + 1) = ((a + 1 : Nat) : Int) := by unfold wrap64; omega
  unfold layout_Target.f
  rw [in_f, decide_eq_true (by omega)]
  simp only [Option.bind_some, if_true]
  rw [if_neg (show ¬ off > 2147483647 by omega), decide_eq_false (show ¬ off < -2147483648 by omega)]
  simp only [layout_Target.j0, Bool.false_eq_true, if_false]
  rw [e1, if_pos (by omega), if_pos (by omega), Int.toNat_natCast]
  have hlen : (l.take (a + 1)).length = a + 1 := by rw [List.length_take]; omega
  have h3 := startF_range l (a + 1) (by omega)
  have e2 : wrap64 (startF l (a + 1) + off) = startF l (a + 1) + off := by unfold wrap64; omega
  simp only [layout_Starts.f, hlen, if_pos (show a + 1 ≤ 65536 by omega), Option.bind_some, startF_take, layout_At.f, if_pos (show l.length ≤ 65536 by omega), e2, targF]
  first | rfl | (congr 2; done) | (simp; done)
theorem targ_out (l : List S48) (a off : Int) (h : ¬ (0 ≤ a ∧ a < l.length) ∨ off > 2147483647 ∨ off < -2147483648) (k : Nat) (hk : 1 ≤ k) : layout_Target.f k l a off = some (0, false) := by
  obtain ⟨k, rfl⟩ : ∃ m, k = m + 1 := ⟨k - 1, by omega⟩
  unfold layout_Target.f
  rw [in_f]
  have hj : layout_Target.j0 (k + 1) l a off true = some (0, false) := by simp only [layout_Target.j0, if_true]
  by_cases h1 : 0 ≤ a ∧ a < (l.length : Int)
  · rw [decide_eq_true h1]
    simp only [Option.bind_some, if_true]
    by_cases h2 : off > 2147483647
    · rw [if_pos h2]; exact hj
    · rw [if_neg h2, decide_eq_true (show off < -2147483648 by omega)]; exact hj
  · rw [decide_eq_false h1]
    simp only [Option.bind_some, Bool.false_eq_true, if_false]
    exact hj
theorem layoutTargets_true (l : List S48) (a off : Int) : slotcodelaw12_LayoutTargets.f 400 l a off = some true := by
  unfold slotcodelaw12_LayoutTargets.f
  by_cases h : (l.length : Int) > 100
  · rw [if_pos h, alive_f 400 (by omega)]; rfl
  · rw [if_neg h, rin_f]
    have hl : l.length ≤ 100 := by omega
    -- the arm in which nothing is wanted
    have hno : slotcodelaw12_LayoutTargets.j0 400 l a off 0 false (-1) false = some true := by
      show slotcodelaw12_LayoutTargets.j0 (399 + 1) l a off 0 false (-1) false = _
      simp only [slotcodelaw12_LayoutTargets.j0, Bool.false_eq_true, if_false]
      rw [alive_f 399 (by omega)]
      rfl
    by_cases h1 : 0 ≤ a ∧ a < (l.length : Int)
    · rw [decide_eq_true h1]
      obtain ⟨a, rfl⟩ := Int.eq_ofNat_of_zero_le h1.1
      have e1 : wrap64 ((a : Int) + 1) = ((a + 1 : Nat) : Int) := by unfold wrap64; omega
      have h3 := startF_range l (a + 1) (by omega)
      by_cases h2 : off > -1000000 ∧ off < 1000000
      · rw [targ_in l hl a (by omega) off (by omega) (by omega) 400 (by omega)]
        simp only [Option.bind_some, if_true]
        rw [if_pos h2.1, decide_eq_true h2.2]
        show slotcodelaw12_LayoutTargets.j0 (399 + 1) l a off _ _ (-1) true = _
        simp only [slotcodelaw12_LayoutTargets.j0, if_true]
        have e2 : wrap64 (startF l (a + 1) + off) = startF l (a + 1) + off := by unfold wrap64; omega
        rw [e1, start_f l (by omega) (a + 1) (by omega) 399 (by omega)]
        simp only [Option.bind_some]
        rw [e2, rat_f l (by omega) _ 399 (by omega), alive_f 399 (by omega)]
        simp [targF]
      · have hfar : layout_Target.f 400 l a off = some (0, false) := by
          by_cases h4 : off ≤ 2147483647 ∧ -2147483648 ≤ off
          · rw [targ_in l hl a (by omega) off h4.1 h4.2 400 (by omega)]
            have : targF l a off = -1 := atF_far l hl _ (by omega)
            rw [this, mx_neg]
            rfl
          · exact targ_out l a off (by omega) 400 (by omega)
        rw [hfar]
        simp only [Option.bind_some, if_true]
        by_cases h5 : off > -1000000
        · rw [if_pos h5, decide_eq_false (by omega)]; exact hno
        · rw [if_neg h5]; exact hno
    · rw [decide_eq_false h1, targ_out l a off (.inl h1) 400 (by omega)]
      simp only [Option.bind_some, Bool.false_eq_true, if_false]
      exact hno

/-! Inverts -/
theorem startF_mono (l : List S48) (h : ∀ j : Nat, j < l.length → 1 ≤ slF (rd_T48 l j).f0) (hl : l.length ≤ 100) (a : Nat) : ∀ d : Nat, a + d ≤ l.length → startF l a + d ≤ startF l (a + d)
  | 0, _ => by simp
  | d + 1, hd => by
    have ih := startF_mono l h hl a d (by omega)
    have h1 := startF_succ l (a + d) (by omega)
    have h2 := h (a + d) (by omega)
    rw [show a + (d + 1) = a + d + 1 by omega, h1]
    omega
theorem inverts_j1 (l : List S48) (hl : l.length ≤ 100) (h0 : 0 < l.length) (h : ∀ j : Nat, j < l.length → 1 ≤ slF (rd_T48 l j).f0) (i j : Int) (hi : 0 ≤ i ∧ i ≤ 255) (hj : 0 ≤ j ∧ j ≤ 255) (k : Nat) (hk : 200 ≤ k) :
    slotcodelaw12_LayoutInverts.j1 k l i j false = some true := by
  obtain ⟨k, rfl⟩ : ∃ m, k = m + 1 := ⟨k - 1, by omega⟩
  obtain ⟨a, ea, ha⟩ : ∃ a : Nat, Int.tmod (wrap64 i) (l.length : Int) = a ∧ a < l.length := by
    have hw : wrap64 i = i := by unfold wrap64; omega
    refine ⟨(i % l.length).toNat, ?_, ?_⟩ <;> (try rw [hw, Int.tmod_eq_emod_of_nonneg hi.1]) <;> have := Int.emod_nonneg i (show (l.length : Int) ≠ 0 by omega) <;> have := Int.emod_lt_of_pos i (show (0 : Int) < l.length by omega) <;> omega
  obtain ⟨b, eb, hb⟩ : ∃ b : Nat, Int.tmod (wrap64 j) (l.length : Int) = b ∧ b < l.length := by
    have hw : wrap64 j = j := by unfold wrap64; omega
    refine ⟨(j % l.length).toNat, ?_, ?_⟩ <;> (try rw [hw, Int.tmod_eq_emod_of_nonneg hj.1]) <;> have := Int.emod_nonneg j (show (l.length : Int) ≠ 0 by omega) <;> have := Int.emod_lt_of_pos j (show (0 : Int) < l.length by omega) <;> omega
  simp only [slotcodelaw12_LayoutInverts.j1, Bool.false_eq_true, if_false]
  rw [if_neg (by omega), ea, eb, dist_in l hl a b ha hb k (by omega)]
  simp only [Option.bind_some]
  have h1 := startF_range l b (by omega)
  have h2 := startF_range l (a + 1) (by omega)
  have hd : startF l (a + 1) + distF l a b = startF l b := by unfold distF; omega
  rw [targ_in l hl a ha (distF l a b) (by unfold distF; omega) (by unfold distF; omega) k (by omega)]
  have hat : targF l a (distF l a b) = b := by
    unfold targF
    rw [hd]
    refine atFrom_hit l _ _ _ b (Nat.zero_le _) (by omega) (fun c _ hc => ?_) rfl
    have := startF_mono l h hl c (b - c) (by omega)
    rw [show c + (b - c) = b by omega] at this
    omega
  rw [hat, mx_pos (by omega), decide_eq_true (show (b : Int) ≥ 0 by omega), alive_f k (by omega)]
  simp only [Option.bind_some, if_true, beq_self_eq_true]
theorem inverts_l0 (l : List S48) (hl : l.length ≤ 9223372036854775807) (i j : Int) (hi : 0 ≤ i ∧ i ≤ 255) (hj : 0 ≤ j ∧ j ≤ 255) : ∀ (d x k : Nat), x + d = l.length → d + 300 ≤ k → (∀ y : Nat, y < x → 1 ≤ slF (rd_T48 l y).f0) →
    slotcodelaw12_LayoutInverts.l0 k l i j l l.length x = some true
  | 0, x, k, h, hk, hs => by
    obtain ⟨k, rfl⟩ : ∃ m, k = m + 2 := ⟨k - 2, by omega⟩
    show slotcodelaw12_LayoutInverts.l0 (k + 1 + 1) l i j l l.length x = _
    simp only [slotcodelaw12_LayoutInverts.l0]
    rw [if_neg (by omega)]
    have ht : slotcodelaw12_LayoutInverts.j1 (k + 1) l i j true = some true := by
      simp only [slotcodelaw12_LayoutInverts.j1, if_true]
      rw [alive_f k (by omega)]
      rfl
    by_cases h1 : (l.length : Int) > 100
    · rw [if_pos h1]; exact ht
    · rw [if_neg h1]
      by_cases h2 : l.length = 0
      · rw [show ((l.length : Int) == 0) = true by rw [h2]; rfl]; exact ht
      · rw [show ((l.length : Int) == 0) = false by rw [beq_eq_false_iff_ne]; omega]
        exact inverts_j1 l (by omega) (by omega) (fun y hy => hs y (by omega)) i j hi hj (k + 1) (by omega)
  | d + 1, x, k, h, hk, hs => by
    obtain ⟨k, rfl⟩ : ∃ m, k = m + 1 := ⟨k - 1, by omega⟩
    have hw : wrap64 ((x : Int) + 1) = ((x + 1 : Nat) : Int) := by unfold wrap64; omega
    simp only [slotcodelaw12_LayoutInverts.l0]
    rw [if_pos (by omega), if_pos (by omega), if_pos (by omega), slots_f k (by omega), hw]
    simp only [Option.bind_some]
    by_cases h1 : slF (rd_T48 l x).f0 = 0
    · rw [if_pos h1, alive_f k (by omega)]; rfl
    · rw [if_neg h1]
      refine inverts_l0 l hl i j hi hj d (x + 1) k (by omega) (by omega) (fun y hy => ?_)
      by_cases h2 : y < x
      · exact hs y h2
      · have : y = x := by omega
        subst this
        have := slF_range (rd_T48 l y).f0
        omega
theorem layoutInverts_true (l : List S48) (hl : l.length ≤ 9223372036854775807) (i j : Int) (hi : 0 ≤ i ∧ i ≤ 255) (hj : 0 ≤ j ∧ j ≤ 255) : slotcodelaw12_LayoutInverts.f (l.length + 300) l i j = some true :=
  inverts_l0 l hl i j hi hj l.length 0 _ (by omega) (by omega) (fun y hy => by omega)
end Go.Proofs.YtgdfeehpbccbnaaDoor.Q
