/- The walk of InsnWrites. -/
import Derived.Test.YtnllfppkfdnjpaaDoorPIns
import Derived.Test.YtnllfppkfdnjpaaDoorRcf
namespace Go.Proofs.YtnllfppkfdnjpaaDoor.L
open Go Go.RowKit Go.Proofs.YtnllfppkfdnjpaaDoor.Ops Go.Proofs.YtnllfppkfdnjpaaDoor.Q Go.Proofs.YtnllfppkfdnjpaaDoorW.PrintWords

theorem call_only : (List.range 86).map (fun n => formS (Int.ofNat n) == 5) = (List.range 86).map (fun n => Int.ofNat n == 67) := by kernel_rfl
theorem form5 {o : Int} (h : formS o = 5) : o = 67 := by
  by_cases hi : Is o
  · have e := in_rangeQ (f := fun n => formS n == 5) (g := fun n => n == 67) call_only o hi
    simpa [h] using e
  · rw [formS_out hi] at h; omega
theorem reg_range {d : Int} (h : regB d = true) : 0 ≤ d ∧ d < 11 := by
  unfold regB at h
  simpa using h
theorem rcheck_reg {o : Int} {r : Bool} {d s f i : Int} (h : rcheckF o r d s f i = 0) : 0 ≤ d ∧ d < 11 := by
  unfold rcheckF at h
  split at h
  · omega
  · split at h
    · omega
    · split at h
      · omega
      · rename_i h3
        simp at h3
        exact reg_range h3.1
/-- What a correct instruction writes: none; a register, which its form uses, or the call's. -/
theorem writes_three (o : Int) (r : Bool) (d s f i : Int) (h : rcheckF o r d s f i = 0) : writesT (formS o) d = -1 ∨ (0 ≤ writesT (formS o) d ∧ writesT (formS o) d ≤ 10 ∧ ((usesT (formS o) r).1 = true ∨ o = 67 ∧ (usesT (formS o) r).1 = false)) := by
  obtain ⟨d0, d1⟩ := rcheck_reg h
  have hm := form_mem o
  have h5 := @form5 o
  generalize formS o = t at hm h5
  simp only [List.mem_cons, List.not_mem_nil, or_false] at hm
  rcases hm with rfl | rfl | rfl | rfl | rfl | rfl | rfl | rfl | rfl | rfl | rfl | rfl | rfl
  all_goals simp [writesT, usesT]
  all_goals omega

theorem field0 (w : World) (a b c d : Bool) : (Instr.field 23 (.agg #[.bool a, .bool b, .bool c, .bool d]) 0).run Tryd.prog w = .ok (.bool a) w := by kernel_rfl
set_option maxRecDepth 100000 in
set_option maxHeartbeats 4000000 in
theorem insnWrites_walk (w : World) (hG : GG w) (o : Int) (r : Bool) (d s f i : Int) {Q : Prop} (_ : Q) :
    Calls Tryd.prog 8 #[.agg #[.int .i64 o, .bool r, .int .i64 d, .int .i64 s, .int .i64 f, .int .i64 i]] w fun e w' => e = .returned (.bool true) ∧ Below w.heap.size w w' := by
  have hb0 : Below w.heap.size w (w.alloc (.cells #[.int .i64 o, .bool r, .int .i64 d, .int .i64 s, .int .i64 f, .int .i64 i] 29)) := (Below.refl _ w).alloc (Nat.le_refl _) _
  have p0 := box0 w o r d s f i
  go_enter Tryd.func8, Tryd.ntmps8
  go_wp2_with fail
  refine (slotcoderef04_Check.calls o r d s f i (rcheckF o r d s f i) _ rfl).mono ?_
  rintro e w1 ⟨rfl, hb⟩
  have p1 := p0.step hb
  have hB := hb0.trans (hb.mono hb0.size)
  clear hb p0 hb0
  by_cases h : rcheckF o r d s f i = 0
  · rcases writes_three o r d s f i h with h1 | ⟨h1, h2, h3⟩
    · have hz : (rcheckF o r d s f i != 0) = false := by simp [h]
      have a0 := p1.c0
      have a1 := p1.c1
      have a2 := p1.c2
      have a3 := p1.c3
      have a4 := p1.c4
      have a5 := p1.c5
      go_wp2_with fail
      refine (insn_Writes.calls 40 o r d s f i (-1) _ (by rw [writes40, h1]) (G_at hG hB)).mono ?_
      rintro e w2 ⟨rfl, hb⟩
      have p2 := p1.step hb
      have hB := hB.trans (hb.mono hB.size)
      clear hb p1
      go_wp2_with fail
      refine (slotcodelaw04_alive.calls true _ rfl (G_at hG hB)).mono ?_
      rintro e w3 ⟨rfl, hb⟩
      have p3 := p2.step hb
      have hB := hB.trans (hb.mono hB.size)
      clear hb p2
      have a0 := p3.c0
      have a1 := p3.c1
      go_wp2_with fail
      go_ret
      exact ⟨rfl, hB⟩
    · obtain ⟨n, hn⟩ : ∃ n, writesT (formS o) d = n := ⟨_, rfl⟩
      obtain ⟨⟨u1, u2, u3, u4⟩, hu⟩ : ∃ u, usesT (formS o) r = u := ⟨_, rfl⟩
      rw [hn] at h1 h2
      rw [hu] at h3
      simp only at h3
      have hz : (rcheckF o r d s f i != 0) = false := by simp [h]
      have a0 := p1.c0
      have a1 := p1.c1
      have a2 := p1.c2
      have a3 := p1.c3
      have a4 := p1.c4
      have a5 := p1.c5
      go_wp2_with fail
      refine (insn_Writes.calls 40 o r d s f i n _ (by rw [writes40, hn]) (G_at hG hB)).mono ?_
      rintro e w2 ⟨rfl, hb⟩
      have p2 := p1.step hb
      have hB := hB.trans (hb.mono hB.size)
      clear hb p1
      go_wp2_with fail
      refine (slotcodelaw04_alive.calls true _ rfl (G_at hG hB)).mono ?_
      rintro e w3 ⟨rfl, hb⟩
      have p3 := p2.step hb
      have hB := hB.trans (hb.mono hB.size)
      clear hb p2
      have a0 := p3.c0
      have a1 := p3.c1
      go_wp2_with fail
      refine (insn_Uses.calls 40 o r u1 u2 u3 u4 _ (by rw [uses40, hu]) (G_at hG hB)).mono ?_
      rintro e w4 ⟨rfl, hb⟩
      have p4 := p3.step hb
      have hB := hB.trans (hb.mono hB.size)
      clear hb p3
      have a0 := p4.c0
      have hfl := field0
      clear hu hn
      rcases h3 with h3 | ⟨rfl, h3⟩
      · subst h3
        go_wp2_with fail
        go_ret
        exact ⟨rfl, hB⟩
      · subst h3
        go_wp2_with fail
        go_ret
        exact ⟨rfl, hB⟩
  · have hz : (rcheckF o r d s f i != 0) = true := by simp [h]
    go_wp2_with fail
    refine (slotcodelaw04_alive.calls true _ rfl (G_at hG hB)).mono ?_
    rintro e w2 ⟨rfl, hb⟩
    go_wp2_with fail
    go_ret
    exact ⟨rfl, hB.trans (hb.mono hB.size)⟩
end Go.Proofs.YtnllfppkfdnjpaaDoor.L
