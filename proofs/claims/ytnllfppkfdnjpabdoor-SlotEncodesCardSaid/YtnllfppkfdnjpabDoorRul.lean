/- The rules of insn.Check, each for itself. -/
import Derived.Test.YtnllfppkfdnjpabDoorKx5
import Derived.Test.YtnllfppkfdnjpabDoorKx4
namespace Go.Proofs.YtnllfppkfdnjpabDoor.Q
open Go Go.RowKit Go.Proofs.YtnllfppkfdnjpabDoor.Ops Go.Proofs.YtnllfppkfdnjpabDoorW.PrintWords

def regB (n : Int) : Bool := decide (0 ≤ n) && decide (n < 11)

theorem r1_any (n : Int) (w : World) : Calls Tryd.prog 119 #[.int .i64 n] w fun e w' => e = .returned (.bool (regB n)) ∧ w = w' := by
  by_cases h0 : 0 ≤ n
  · by_cases h1 : n < 11
    · have e : regB n = true := by simp [regB, h0, h1]
      rw [e]
      go_enter Tryd.func119, Tryd.ntmps119
      go_wp2
      go_ret
      exact ⟨rfl, rfl⟩
    · have e : regB n = false := by simp [regB, h1]
      rw [e]
      go_enter Tryd.func119, Tryd.ntmps119
      go_wp2
      go_ret
      exact ⟨rfl, rfl⟩
  · have e : regB n = false := by simp [regB, h0]
    rw [e]
    go_enter Tryd.func119, Tryd.ntmps119
    go_wp2
    go_ret
    exact ⟨rfl, rfl⟩

abbrev argW (o : Int) (r : Bool) (d s f : Int) (i : Int) (u : Bool × Bool × Bool × Bool) (w : World) : World :=
  (w.alloc (.cells #[.int .i64 o, .bool r, .int .i64 d, .int .i64 s, .int .i64 f, .int .i64 i] 23)).alloc (.cells #[.bool u.1, .bool u.2.1, .bool u.2.2.1, .bool u.2.2.2] 111)
theorem argW_below (o : Int) (r : Bool) (d s f : Int) (i : Int) (u : Bool × Bool × Bool × Bool) (w : World) : Below w.heap.size w (argW o r d s f i u w) := ((Below.refl _ w).alloc (Nat.le_refl _) (.cells #[.int .i64 o, .bool r, .int .i64 d, .int .i64 s, .int .i64 f, .int .i64 i] 23)).alloc (by simp) (.cells #[.bool u.1, .bool u.2.1, .bool u.2.2.1, .bool u.2.2.2] 111)
theorem argW_cells (o : Int) (r : Bool) (d s f : Int) (i : Int) (u : Bool × Bool × Bool × Bool) (w w1 : World) (hb : Below (argW o r d s f i u w).heap.size (argW o r d s f i u w) w1) :
    w1.cell? ⟨w.heap.size, 0, none⟩ = some (.int .i64 o) ∧ w1.cell? ⟨w.heap.size, 1, none⟩ = some (.bool r) ∧ w1.cell? ⟨w.heap.size, 2, none⟩ = some (.int .i64 d) ∧ w1.cell? ⟨w.heap.size, 3, none⟩ = some (.int .i64 s) ∧ w1.cell? ⟨w.heap.size, 4, none⟩ = some (.int .i64 f) ∧ w1.cell? ⟨w.heap.size, 5, none⟩ = some (.int .i64 i) ∧
    w1.cell? ⟨w.heap.size + 1, 0, none⟩ = some (.bool u.1) ∧ w1.cell? ⟨w.heap.size + 1, 1, none⟩ = some (.bool u.2.1) ∧ w1.cell? ⟨w.heap.size + 1, 2, none⟩ = some (.bool u.2.2.1) ∧ w1.cell? ⟨w.heap.size + 1, 3, none⟩ = some (.bool u.2.2.2) := by
  refine ⟨?_, ?_, ?_, ?_, ?_, ?_, ?_, ?_, ?_, ?_⟩
  all_goals (rw [hb.cell (by simp; try omega)]; simp)

/-- Form is below 0. -/
theorem r2_any (o : Int) (r : Bool) (d s f : Int) (i : Int) (u : Bool × Bool × Bool × Bool) (w : World) (hG : GG w) : Calls Tryd.prog 120 #[.agg #[.int .i64 o, .bool r, .int .i64 d, .int .i64 s, .int .i64 f, .int .i64 i], .agg #[.bool u.1, .bool u.2.1, .bool u.2.2.1, .bool u.2.2.2]] w fun e w' =>
    e = .returned (.bool (decide (formS o < 0))) ∧ Below w.heap.size w w' := by
  have hB := argW_below o r d s f i u w
  go_enter Tryd.func120, Tryd.ntmps120
  go_wp2_with fail
  refine (ops_Form.calls o (formS o) _ rfl (G_at hG hB)).mono ?_
  rintro e w1 ⟨rfl, hb⟩
  go_wp2_with fail
  go_ret
  exact ⟨rfl, hB.trans (hb.mono hB.size)⟩

/-- A register is told where none may be. -/
def r3B (o : Int) (r : Bool) : Bool := r && formS o != 0 && formS o != 4
theorem r3_any (o : Int) (r : Bool) (d s f : Int) (i : Int) (u : Bool × Bool × Bool × Bool) (w : World) (hG : GG w) : Calls Tryd.prog 121 #[.agg #[.int .i64 o, .bool r, .int .i64 d, .int .i64 s, .int .i64 f, .int .i64 i], .agg #[.bool u.1, .bool u.2.1, .bool u.2.2.1, .bool u.2.2.2]] w fun e w' =>
    e = .returned (.bool (r3B o r)) ∧ Below w.heap.size w w' := by
  have hB := argW_below o r d s f i u w
  go_enter Tryd.func121, Tryd.ntmps121
  cases r with
  | false =>
    go_wp2_with fail
    go_ret
    exact ⟨rfl, hB⟩
  | true =>
    go_wp2_with fail
    refine (ops_Form.calls o (formS o) _ rfl (G_at hG hB)).mono ?_
    rintro e w1 ⟨rfl, hb⟩
    have hB1 := hB.trans (hb.mono hB.size)
    obtain ⟨d0, _⟩ := argW_cells o true d s f i u w w1 hb
    by_cases h0 : formS o = 0
    · have e0 : (formS o != 0) = false := by simp [h0]
      go_wp2_with fail
      go_ret
      exact ⟨by simp [r3B, h0], hB1⟩
    · have e0 : (formS o != 0) = true := by simp [h0]
      go_wp2_with fail
      refine (ops_Form.calls o (formS o) _ rfl (G_at hG hB1)).mono ?_
      rintro e w2 ⟨rfl, hb2⟩
      go_wp2_with fail
      go_ret
      exact ⟨by simp [r3B, h0], hB1.trans (hb2.mono hB1.size)⟩

/-- A field is told that is not used. -/
def r4B (d s f i : Int) (u : Bool × Bool × Bool × Bool) : Bool := (!u.1 && d != 0) || (!u.2.1 && s != 0) || (!u.2.2.1 && f != 0) || (!u.2.2.2 && i != 0)
set_option maxHeartbeats 8000000 in
theorem r4_any (o : Int) (r : Bool) (d s f : Int) (i : Int) (u : Bool × Bool × Bool × Bool) (w : World) (_ : GG w) : Calls Tryd.prog 122 #[.agg #[.int .i64 o, .bool r, .int .i64 d, .int .i64 s, .int .i64 f, .int .i64 i], .agg #[.bool u.1, .bool u.2.1, .bool u.2.2.1, .bool u.2.2.2]] w fun e w' =>
    e = .returned (.bool (r4B d s f i u)) ∧ Below w.heap.size w w' := by
  have hB := argW_below o r d s f i u w
  obtain ⟨u1, u2, u3, u4⟩ := u
  go_enter Tryd.func122, Tryd.ntmps122
  cases u1 <;> cases u2 <;> cases u3 <;> cases u4
  all_goals (go_wp2_with fail)
  all_goals go_ret
  all_goals (refine ⟨?_, ((Below.refl _ w).alloc (Nat.le_refl _) _).alloc (by simp) _⟩)
  all_goals (simp_all [r4B]; done)

/-- A register's number is none. -/
theorem r5_any (B : Nat) (o : Int) (r : Bool) (d s f : Int) (i : Int) (u : Bool × Bool × Bool × Bool) (w : World) (_ : GG w) (hR : w.cell? ⟨B, 0, none⟩ = some (.func (.func 119) #[] #[])) : Calls Tryd.prog 123 #[.agg #[.int .i64 o, .bool r, .int .i64 d, .int .i64 s, .int .i64 f, .int .i64 i], .agg #[.bool u.1, .bool u.2.1, .bool u.2.2.1, .bool u.2.2.2], .pointer (some ⟨B, 0, none⟩)] w fun e w' =>
    e = .returned (.bool (!regB d || !regB s)) ∧ Below w.heap.size w w' := by
  have hB := argW_below o r d s f i u w
  have hlt := block_lt_of_cell hR
  have hR2 : (argW o r d s f i u w).cell? ⟨B, 0, none⟩ = some (.func (.func 119) #[] #[]) := (hB.cell (p := ⟨B, 0, none⟩) hlt).trans hR
  go_enter Tryd.func123, Tryd.ntmps123
  go_wp2_with fail
  refine (r1_any d _).mono ?_
  rintro e w1 ⟨rfl, rfl⟩
  cases hd : regB d with
  | false =>
    go_wp2_with fail
    go_ret
    exact ⟨by simp [hd], hB⟩
  | true =>
    go_wp2_with fail
    refine (r1_any s _).mono ?_
    rintro e w2 ⟨rfl, rfl⟩
    go_wp2_with fail
    go_ret
    exact ⟨by simp [hd], hB⟩

def fitB (n : Int) (bits : Int) : Bool := (num_Fits.f n bits).getD false
theorem num_Fits_f (n : Int) (bits : Int) (h : knownB bits = true) (h2 : 0 ≤ wrap64 (64 - bits)) : num_Fits.f n bits = some (fitB n bits) := by
  unfold fitB
  simp only [num_Fits.f, num_Extend.f, num_known.f, h, Option.bind_some, if_true, if_pos h2, Option.getD_some]
theorem fits16 (n : Int) : num_Fits.f n 16 = some (fitB n 16) := num_Fits_f n 16 rfl (by unfold wrap64; omega)
theorem fits32 (n : Int) : num_Fits.f n 32 = some (fitB n 32) := num_Fits_f n 32 rfl (by unfold wrap64; omega)
/-- The immediate is in its range. -/
def immB (o i : Int) : Bool := if formS o = 10 then true else if formS o = 5 then decide (1 ≤ i) && decide (i ≤ 3) else if formS o = 11 then decide (0 ≤ i) && decide (i < 255) else fitB i 32
theorem insn_fits_f (o : Int) (r : Bool) (d s f i : Int) : insn_fits.f o r d s f i = some (immB o i) := by
  unfold insn_fits.f ops_Form.f immB
  simp only [Option.bind_some, fits32]
  split
  · rfl
  · split
    · split
      · rename_i h; simp [h]
      · rename_i h; simp [h]
    · split
      · split
        · rename_i h; simp [h]
        · rename_i h; simp [h]
      · rfl
/-- A number is out of its range. -/
def r6B (o f i : Int) : Bool := !fitB f 16 || !immB o i
theorem r6_any (o : Int) (r : Bool) (d s f : Int) (i : Int) (u : Bool × Bool × Bool × Bool) (w : World) (hG : GG w) : Calls Tryd.prog 124 #[.agg #[.int .i64 o, .bool r, .int .i64 d, .int .i64 s, .int .i64 f, .int .i64 i], .agg #[.bool u.1, .bool u.2.1, .bool u.2.2.1, .bool u.2.2.2]] w fun e w' =>
    e = .returned (.bool (r6B o f i)) ∧ Below w.heap.size w w' := by
  have hB := argW_below o r d s f i u w
  go_enter Tryd.func124, Tryd.ntmps124
  go_wp2_with fail
  refine (num_Fits.calls f 16 (fitB f 16) _ (fits16 f) (G_at hG hB)).mono ?_
  rintro e w1 ⟨rfl, hb⟩
  have hB1 := hB.trans (hb.mono hB.size)
  obtain ⟨d0, d1, d2, d3, d4, d5, _⟩ := argW_cells o r d s f i u w w1 hb
  clear hb
  cases hf : fitB f 16 with
  | false =>
    go_wp2_with fail
    go_ret
    exact ⟨by simp [r6B, hf], hB1⟩
  | true =>
    go_wp2_with fail
    refine (insn_fits.calls o r d s f i (immB o i) _ (insn_fits_f o r d s f i) (G_at hG hB1)).mono ?_
    rintro e w2 ⟨rfl, hb2⟩
    go_wp2_with fail
    go_ret
    exact ⟨by simp [r6B, hf], hB1.trans (hb2.mono hB1.size)⟩

end Go.Proofs.YtnllfppkfdnjpabDoor.Q
