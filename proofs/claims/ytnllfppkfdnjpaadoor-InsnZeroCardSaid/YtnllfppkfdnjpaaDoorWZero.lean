/- The walk of InsnZero. -/
import Derived.Test.YtnllfppkfdnjpaaDoorPIns
import Derived.Test.YtnllfppkfdnjpaaDoorRcf
import Derived.OpenShut
namespace Go.Proofs.YtnllfppkfdnjpaaDoor.L
open Go Go.RowKit Go.Proofs.YtnllfppkfdnjpaaDoor.Ops Go.Proofs.YtnllfppkfdnjpaaDoor.Q Go.Proofs.YtnllfppkfdnjpaaDoorW.PrintWords

/-- Another value in a field that is not used: the error. -/
theorem zero12 {o : Int} {r : Bool} {d s f i : Int} (h : rcheckF o r d s f i = 0) {d' s' f' i' : Int} (h4 : r4B d' s' f' i' (usesT (formS o) r) = true) : checkF o r d' s' f' i' = 12 := by
  have h0 : ¬ formS o < 0 := fun hlt => by unfold rcheckF at h; rw [if_pos hlt] at h; omega
  unfold checkF
  rw [if_neg h0]
  cases r3B o r with
  | true => rfl
  | false => rw [if_neg (by decide), if_pos h4]

theorem index_run (w : World) (a b c d : Bool) : (Instr.index 35 (.agg #[.bool a, .bool b, .bool c, .bool d]) (.int .i64 0)).run Tryd.prog w = .ok (.bool a) w ∧ (Instr.index 35 (.agg #[.bool a, .bool b, .bool c, .bool d]) (.int .i64 1)).run Tryd.prog w = .ok (.bool b) w ∧
    (Instr.index 35 (.agg #[.bool a, .bool b, .bool c, .bool d]) (.int .i64 2)).run Tryd.prog w = .ok (.bool c) w ∧ (Instr.index 35 (.agg #[.bool a, .bool b, .bool c, .bool d]) (.int .i64 3)).run Tryd.prog w = .ok (.bool d) w :=
  ⟨by kernel_rfl, by kernel_rfl, by kernel_rfl, by kernel_rfl⟩
set_option maxRecDepth 100000 in
set_option maxHeartbeats 8000000 in
theorem insnZero_walk (w : World) (hG : GG w) (o : Int) (r : Bool) (d s f i : Int) {Q : Prop} (_ : Q) (n : Int) (hn : (Lit.int .i32 n).wf = true) :
    Calls Tryd.prog 7 #[.agg #[.int .i64 o, .bool r, .int .i64 d, .int .i64 s, .int .i64 f, .int .i64 i], .int .i32 n] w fun e w' => e = .returned (.bool true) ∧ Below w.heap.size w w' := by
  have hnb := bounds_i32 hn
  have hb0 : Below w.heap.size w (w.alloc (.cells #[.int .i64 o, .bool r, .int .i64 d, .int .i64 s, .int .i64 f, .int .i64 i] 29)) := (Below.refl _ w).alloc (Nat.le_refl _) _
  have p0 := box0 w o r d s f i
  go_enter Tryd.func7, Tryd.ntmps7
  go_wp2_with fail
  refine (slotcoderef04_Check.calls o r d s f i (rcheckF o r d s f i) _ rfl).mono ?_
  rintro e w1 ⟨rfl, hb⟩
  have p1 := p0.step hb
  have hB := hb0.trans (hb.mono hb0.size)
  clear hb p0 hb0
  by_cases h : rcheckF o r d s f i = 0
  · have hz : (rcheckF o r d s f i != 0) = false := by simp [h]
    by_cases n0 : n = 0
    · have hz2 : (n == 0) = true := by simp [n0]
      go_wp2_with fail
      refine (slotcodelaw04_alive.calls true _ rfl (G_at hG hB)).mono ?_
      rintro e w9 ⟨rfl, hb⟩
      go_wp2_with fail
      go_ret
      exact ⟨rfl, (hB).trans (hb.mono (hB).size)⟩
    · have hz2 : (n == 0) = false := by simp [n0]
      obtain ⟨⟨q1, q2, q3, q4⟩, hu⟩ : ∃ u, usesT (formS o) r = u := ⟨_, rfl⟩
      have a0 := p1.c0
      have a1 := p1.c1
      go_wp2_with fail
      refine (insn_Uses.calls 40 o r q1 q2 q3 q4 _ (by rw [uses40, hu]) (G_at hG hB)).mono ?_
      rintro e w2 ⟨rfl, hb⟩
      have p2 := p1.step hb
      have hB := hB.trans (hb.mono hB.size)
      clear hb p1 a0 a1
      go_wp2_with fail
      go_loopw [31] (fun j wr => ∃ k : Nat, k ≤ 4 ∧ j = .int .i64 k ∧ Below w2.heap.size w2 wr)
        (fun j _ => 4 - (intOf j).toNat)
      case atStart => exact ⟨0, by omega, rfl, (Below.refl _ w2).alloc (Nat.le_refl _) _⟩
      case round =>
        obtain ⟨k, hk, rfl, hnx⟩ := hrel
        have p3 := p2.step hnx
        have a0 := p3.c0
        have a1 := p3.c1
        have a2 := p3.c2
        have a3 := p3.c3
        have a4 := p3.c4
        have a5 := p3.c5
        have hix := index_run
        obtain rfl | rfl | rfl | rfl | rfl : k = 0 ∨ k = 1 ∨ k = 2 ∨ k = 3 ∨ k = 4 := by omega
        · cases q1 with
          | true =>
            go_wp2_with fail
            go_roundw
            case rel => exact ⟨1, by omega, by go_num, hnx.trans ((Below.refl _ wr).alloc hnx.size _)⟩
            case measure => simp [intOf]
          | false =>
            go_wp2_with fail
            have hA : Below wr.heap.size wr (wr.alloc (.cells #[.int .i64 o, .bool r, .int .i64 n, .int .i64 s, .int .i64 f, .int .i64 i] 29)) := (Below.refl _ _).alloc (Nat.le_refl _) _
            have hn2 := hnx.trans (hA.mono hnx.size)
            have hB2 := hB.trans (hn2.mono hB.size)
            refine (insn_Check.calls o r n s f i 12 _ (congrArg some (zero12 h (by rw [hu]; simp [r4B, n0]))) (G_at hG hB2)).mono ?_
            rintro e w4 ⟨rfl, hb⟩
            have hn3 := hn2.trans (hb.mono hn2.size)
            clear hb hA
            go_wp2_with fail
            go_roundw
            case rel => exact ⟨1, by omega, by go_num, hn3⟩
            case measure => simp [intOf]
        · cases q2 with
          | true =>
            go_wp2_with fail
            go_roundw
            case rel => exact ⟨2, by omega, by go_num, hnx.trans ((Below.refl _ wr).alloc hnx.size _)⟩
            case measure => simp [intOf]
          | false =>
            go_wp2_with fail
            have hA : Below wr.heap.size wr (wr.alloc (.cells #[.int .i64 o, .bool r, .int .i64 d, .int .i64 n, .int .i64 f, .int .i64 i] 29)) := (Below.refl _ _).alloc (Nat.le_refl _) _
            have hn2 := hnx.trans (hA.mono hnx.size)
            have hB2 := hB.trans (hn2.mono hB.size)
            refine (insn_Check.calls o r d n f i 12 _ (congrArg some (zero12 h (by rw [hu]; simp [r4B, n0]))) (G_at hG hB2)).mono ?_
            rintro e w4 ⟨rfl, hb⟩
            have hn3 := hn2.trans (hb.mono hn2.size)
            clear hb hA
            go_wp2_with fail
            go_roundw
            case rel => exact ⟨2, by omega, by go_num, hn3⟩
            case measure => simp [intOf]
        · cases q3 with
          | true =>
            go_wp2_with fail
            go_roundw
            case rel => exact ⟨3, by omega, by go_num, hnx.trans ((Below.refl _ wr).alloc hnx.size _)⟩
            case measure => simp [intOf]
          | false =>
            go_wp2_with fail
            have hA : Below wr.heap.size wr (wr.alloc (.cells #[.int .i64 o, .bool r, .int .i64 d, .int .i64 s, .int .i64 n, .int .i64 i] 29)) := (Below.refl _ _).alloc (Nat.le_refl _) _
            have hn2 := hnx.trans (hA.mono hnx.size)
            have hB2 := hB.trans (hn2.mono hB.size)
            refine (insn_Check.calls o r d s n i 12 _ (congrArg some (zero12 h (by rw [hu]; simp [r4B, n0]))) (G_at hG hB2)).mono ?_
            rintro e w4 ⟨rfl, hb⟩
            have hn3 := hn2.trans (hb.mono hn2.size)
            clear hb hA
            go_wp2_with fail
            go_roundw
            case rel => exact ⟨3, by omega, by go_num, hn3⟩
            case measure => simp [intOf]
        · cases q4 with
          | true =>
            go_wp2_with fail
            go_roundw
            case rel => exact ⟨4, by omega, by go_num, hnx.trans ((Below.refl _ wr).alloc hnx.size _)⟩
            case measure => simp [intOf]
          | false =>
            go_wp2_with fail
            have hA : Below wr.heap.size wr (wr.alloc (.cells #[.int .i64 o, .bool r, .int .i64 d, .int .i64 s, .int .i64 f, .int .i64 n] 29)) := (Below.refl _ _).alloc (Nat.le_refl _) _
            have hn2 := hnx.trans (hA.mono hnx.size)
            have hB2 := hB.trans (hn2.mono hB.size)
            refine (insn_Check.calls o r d s f n 12 _ (congrArg some (zero12 h (by rw [hu]; simp [r4B, n0]))) (G_at hG hB2)).mono ?_
            rintro e w4 ⟨rfl, hb⟩
            have hn3 := hn2.trans (hb.mono hn2.size)
            clear hb hA
            go_wp2_with fail
            go_roundw
            case rel => exact ⟨4, by omega, by go_num, hn3⟩
            case measure => simp [intOf]
        · have hB2 := hB.trans (hnx.mono hB.size)
          go_wp2_with fail
          refine (slotcodelaw04_alive.calls true _ rfl (G_at hG hB2)).mono ?_
          rintro e w9 ⟨rfl, hb⟩
          go_wp2_with fail
          go_ret
          exact ⟨rfl, (hB2).trans (hb.mono (hB2).size)⟩
  · have hz : (rcheckF o r d s f i != 0) = true := by simp [h]
    go_wp2_with fail
    refine (slotcodelaw04_alive.calls true _ rfl (G_at hG hB)).mono ?_
    rintro e w9 ⟨rfl, hb⟩
    go_wp2_with fail
    go_ret
    exact ⟨rfl, (hB).trans (hb.mono (hB).size)⟩
end Go.Proofs.YtnllfppkfdnjpaaDoor.L
