/- The reference's Check. -/
import Derived.Test.YtnllfppkfdnjpabDoorChk
import Derived.Test.YtnllfppkfdnjpabDoorRcp
import Derived.Deep.QuietTactic
import Derived.BigQuiet
import Derived.WalkSmall
import Derived.Test.YtnllfppkfdnjpabDoorKx3
import Derived.Test.YtnllfppkfdnjpabDoorKx2h
namespace Go.Proofs.YtnllfppkfdnjpabDoor.Q
open Go Go.RowKit Go.Proofs.YtnllfppkfdnjpabDoor.Ops Go.Proofs.YtnllfppkfdnjpabDoorW.PrintWords

/-- The box of the instruction, in every later world. -/
structure XB (w w' : World) (o : Int) (r : Bool) (d s f im : Int) : Prop where
  below : Below w.heap.size w w'
  lt : w.heap.size < w'.heap.size
  c0 : w'.cell? ⟨w.heap.size, 0, none⟩ = some (.int .i64 o)
  c1 : w'.cell? ⟨w.heap.size, 1, none⟩ = some (.bool r)
  c2 : w'.cell? ⟨w.heap.size, 2, none⟩ = some (.int .i64 d)
  c3 : w'.cell? ⟨w.heap.size, 3, none⟩ = some (.int .i64 s)
  c4 : w'.cell? ⟨w.heap.size, 4, none⟩ = some (.int .i64 f)
  c5 : w'.cell? ⟨w.heap.size, 5, none⟩ = some (.int .i64 im)
theorem XB.step {w w1 w2 : World} {o : Int} {r : Bool} {d s f im : Int} (h : XB w w1 o r d s f im) (hb : Below w1.heap.size w1 w2) : XB w w2 o r d s f im :=
  ⟨h.below.trans (hb.mono h.below.size), Nat.lt_of_lt_of_le h.lt hb.size, (hb.cell (p := ⟨w.heap.size, 0, none⟩) h.lt).trans h.c0, (hb.cell (p := ⟨w.heap.size, 1, none⟩) h.lt).trans h.c1, (hb.cell (p := ⟨w.heap.size, 2, none⟩) h.lt).trans h.c2,
    (hb.cell (p := ⟨w.heap.size, 3, none⟩) h.lt).trans h.c3, (hb.cell (p := ⟨w.heap.size, 4, none⟩) h.lt).trans h.c4, (hb.cell (p := ⟨w.heap.size, 5, none⟩) h.lt).trans h.c5⟩
theorem XB.new (w : World) (o : Int) (r : Bool) (d s f im : Int) : XB w (w.alloc (.cells #[.int .i64 o, .bool r, .int .i64 d, .int .i64 s, .int .i64 f, .int .i64 im] 23)) o r d s f im := by
  refine ⟨(Below.refl _ w).alloc (Nat.le_refl _) _, by simp, ?_, ?_, ?_, ?_, ?_, ?_⟩
  all_goals simp
theorem below_of_drawn {w w' : World} (h : Drawn0 w w') : Below w.heap.size w w' := by
  obtain ⟨k, rfl⟩ := h
  exact pw_below_drewN (Below.refl _ _) _

def extI (im : Int) : Int := (slotcoderef01_Extend.f 80 (IntKind.u64.wrap im) 32).getD 0
def rimmB (t im : Int) : Bool := !((t == 5 && (decide (im < 1) || decide (im > 3))) || (t == 11 && (decide (im < 0) || decide (im > 254))) || (t != 10 && extI im != im))
def rcheckF (o : Int) (r : Bool) (d s f im : Int) : Int :=
  if formS o < 0 then 6 else if r3B o r || r4B d s f im (usesT (formS o) r) then 12 else if !regB d || !regB s then 5 else if decide (f < -32768) || decide (f > 32767) then 4 else if !rimmB (formS o) im then 4 else 0

theorem rchk12 {o : Int} {r : Bool} {d s f im : Int} (h0 : 0 ≤ formS o) (h : (r3B o r || r4B d s f im (usesT (formS o) r)) = true) : rcheckF o r d s f im = 12 := by
  unfold rcheckF
  rw [if_neg (show ¬ formS o < 0 by omega), if_pos h]
theorem rchk5 {o : Int} {r : Bool} {d s f im : Int} (h0 : 0 ≤ formS o) (h1 : (r3B o r || r4B d s f im (usesT (formS o) r)) = false) (h : (!regB d || !regB s) = true) : rcheckF o r d s f im = 5 := by
  unfold rcheckF
  rw [if_neg (show ¬ formS o < 0 by omega), if_neg (by rw [h1]; decide), if_pos h]
theorem rchk4 {o : Int} {r : Bool} {d s f im : Int} (h0 : 0 ≤ formS o) (h1 : (r3B o r || r4B d s f im (usesT (formS o) r)) = false) (h2 : (!regB d || !regB s) = false) (h : (decide (f < -32768) || decide (f > 32767)) = true) : rcheckF o r d s f im = 4 := by
  unfold rcheckF
  rw [if_neg (show ¬ formS o < 0 by omega), if_neg (by rw [h1]; decide), if_neg (by rw [h2]; decide), if_pos h]
theorem rchkI {o : Int} {r : Bool} {d s f im : Int} (h0 : 0 ≤ formS o) (h1 : (r3B o r || r4B d s f im (usesT (formS o) r)) = false) (h2 : (!regB d || !regB s) = false) (h3 : (decide (f < -32768) || decide (f > 32767)) = false) :
    rcheckF o r d s f im = if !rimmB (formS o) im then 4 else 0 := by
  unfold rcheckF
  rw [if_neg (show ¬ formS o < 0 by omega), if_neg (by rw [h1]; decide), if_neg (by rw [h2]; decide), if_neg (by rw [h3]; decide)]

theorem wrapu {x : Int} (h1 : 0 ≤ x) (h2 : x < 18446744073709551616) : IntKind.u64.wrap x = x := by
  simp [IntKind.wrap, IntKind.signed, IntKind.bits]
  omega
def b12 (r b0 b4 bd bs bf bi u1 u2 u3 u4 : Bool) : Bool := (((((r && b0) && b4) || (!u1 && bd)) || (!u2 && bs)) || (!u3 && bf)) || (!u4 && bi)

set_option maxRecDepth 100000 in
set_option maxHeartbeats 8000000 in
theorem rcheck_any (hE : ∀ im, slotcoderef01_Extend.f 80 (IntKind.u64.wrap im) 32 = some (extI im)) (o : Int) (r : Bool) (d s f im : Int) (w : World) : Calls Tryd.prog 28 #[.agg #[.int .i64 o, .bool r, .int .i64 d, .int .i64 s, .int .i64 f, .int .i64 im]] w fun e w' =>
    e = .returned (.int .i64 (rcheckF o r d s f im)) ∧ Below w.heap.size w w' := by
  have hx := XB.new w o r d s f im
  obtain ⟨u, hu⟩ : ∃ u, usesT (formS o) r = u := ⟨_, rfl⟩
  have hDst : slotcoderef04_Dst.f 40 o = some u.1 := hu ▸ dst_f o r
  have hSrc : slotcoderef04_Src.f 40 o r = some u.2.1 := hu ▸ src_f o r
  have hOff : slotcoderef04_Off.f 40 o = some u.2.2.1 := hu ▸ off_f o r
  have hImm : slotcoderef04_Imm.f 40 o r = some u.2.2.2 := hu ▸ imm_f o r
  have kDst := fun w => slotcoderef04_Dst.calls 40 o u.1 w hDst
  have kSrc := fun w => slotcoderef04_Src.calls 40 o r u.2.1 w hSrc
  have kOff := fun w => slotcoderef04_Off.calls 40 o u.2.2.1 w hOff
  have kImm := fun w => slotcoderef04_Imm.calls 40 o r u.2.2.2 w hImm
  have kForm := fun w => slotcoderef03_Form.calls 40 o (formS o) w (form_f 40 (by omega) o)
  have kReg := fun n w => slotcoderef04_register.calls n (regB n) w (register_f n)
  have kExt : ∀ w, Calls Tryd.prog 22 #[.int .u64 (IntKind.u64.wrap im), .int .i64 32] w fun e w' => e = .returned (.int .i64 (extI im)) ∧ ∃ m, w' = w.drewN m :=
    fun w => (slotcoderef01_Extend.calls 80 (IntKind.u64.wrap im) 32 (extI im) w (hE im)).mono (fun _ _ ⟨h1, k, hk⟩ => ⟨h1, k, hk⟩)
  clear hDst hSrc hOff hImm hE
  go_enter Tryd.func28, Tryd.ntmps28
  go_wp2_with fail
  refine (kForm _).mono ?_
  rintro e w1 ⟨rfl, hb⟩
  have hx := hx.step (below_of_drawn hb)
  clear hb
  obtain ⟨t, ht⟩ : ∃ t, formS o = t := ⟨_, rfl⟩
  rw [ht]
  by_cases h0 : t < 0
  · go_wp2_with fail
    go_ret
    exact ⟨by unfold rcheckF; rw [ht, if_pos h0]; rfl, hx.below⟩
  · go_upto_region 4 with (fail)
    have c0 := hx.c0
    have c1 := hx.c1
    have c2 := hx.c2
    have c3 := hx.c3
    have c4 := hx.c4
    have c5 := hx.c5
    obtain ⟨u1, u2, u3, u4⟩ := u
    obtain ⟨b0, hb0⟩ : ∃ b, (t != 0) = b := ⟨_, rfl⟩
    obtain ⟨b4, hb4⟩ : ∃ b, (t != 4) = b := ⟨_, rfl⟩
    obtain ⟨bd, hbd⟩ : ∃ b, (d != 0) = b := ⟨_, rfl⟩
    obtain ⟨bs, hbs⟩ : ∃ b, (s != 0) = b := ⟨_, rfl⟩
    obtain ⟨bf, hbf⟩ : ∃ b, (f != 0) = b := ⟨_, rfl⟩
    obtain ⟨bi, hbi⟩ : ∃ b, (im != 0) = b := ⟨_, rfl⟩
    go_cut [66] (fun v66 wc => ∃ q : Bool, v66 = .bool q ∧ Aside0 (q = b12 r b0 b4 bd bs bf bi u1 u2 u3 u4) ∧ Aside0 (XB w wc o r d s f im))
    case first =>
      cases r
      all_goals go_wp2_with fail
      all_goals first
        | (go_meet; case rel => exact ⟨_, rfl, ⟨by simp [b12, *]⟩, ⟨hx⟩⟩)
        | skip
      all_goals first
        | (refine (kDst _).mono ?_; rintro e w2 ⟨rfl, hb⟩; have hx := hx.step hb; clear hb; have c0 := hx.c0; have c1 := hx.c1; have c2 := hx.c2; have c3 := hx.c3; have c4 := hx.c4; have c5 := hx.c5; go_wp2_with fail)
        | skip
      all_goals first
        | (go_meet; case rel => exact ⟨_, rfl, ⟨by simp [b12, *]⟩, ⟨hx⟩⟩)
        | skip
      all_goals first
        | (refine (kSrc _).mono ?_; rintro e w2 ⟨rfl, hb⟩; have hx := hx.step hb; clear hb; have c0 := hx.c0; have c1 := hx.c1; have c2 := hx.c2; have c3 := hx.c3; have c4 := hx.c4; have c5 := hx.c5; go_wp2_with fail)
        | skip
      all_goals first
        | (go_meet; case rel => exact ⟨_, rfl, ⟨by simp [b12, *]⟩, ⟨hx⟩⟩)
        | skip
      all_goals first
        | (refine (kOff _).mono ?_; rintro e w2 ⟨rfl, hb⟩; have hx := hx.step hb; clear hb; have c0 := hx.c0; have c1 := hx.c1; have c2 := hx.c2; have c3 := hx.c3; have c4 := hx.c4; have c5 := hx.c5; go_wp2_with fail)
        | skip
      all_goals first
        | (go_meet; case rel => exact ⟨_, rfl, ⟨by simp [b12, *]⟩, ⟨hx⟩⟩)
        | skip
      all_goals first
        | (refine (kImm _).mono ?_; rintro e w2 ⟨rfl, hb⟩; have hx := hx.step hb; clear hb; have c0 := hx.c0; have c1 := hx.c1; have c2 := hx.c2; have c3 := hx.c3; have c4 := hx.c4; have c5 := hx.c5; go_wp2_with fail)
        | skip
      all_goals first
        | (go_meet; case rel => exact ⟨_, rfl, ⟨by simp [b12, *]⟩, ⟨hx⟩⟩)
        | skip
    case rest =>
      obtain ⟨q, rfl, hq, hx⟩ := hcut
      have hx := hx.out
      have c0 := hx.c0
      have c1 := hx.c1
      have c2 := hx.c2
      have c3 := hx.c3
      have c4 := hx.c4
      have c5 := hx.c5
      have H0 : Aside0 (0 ≤ formS o) := ⟨by rw [ht]; omega⟩
      have e12 : (r3B o r || r4B d s f im (usesT (formS o) r)) = q := by
        rw [hq.out, hu]
        unfold r3B r4B b12
        rw [ht, hb0, hb4, hbd, hbs, hbf, hbi]
        simp only [Bool.or_assoc]
      clear hq kDst kSrc kOff kImm kForm hb0 hb4 hbd hbs hbf hbi hu
      have E12 := Aside0.mk e12
      clear e12
      cases q with
      | true =>
        go_wp2_with fail
        go_ret
        exact ⟨by rw [rchk12 H0.out E12.out]; rfl, hx.below⟩
      | false =>
        go_wp2_with fail
        refine (kReg d _).mono ?_
        rintro e w2 ⟨rfl, hb⟩
        have hx := hx.step (below_of_drawn hb)
        clear hb
        have c0 := hx.c0
        have c1 := hx.c1
        have c2 := hx.c2
        have c3 := hx.c3
        have c4 := hx.c4
        have c5 := hx.c5
        obtain ⟨q1, hq1⟩ : ∃ b, regB d = b := ⟨_, rfl⟩
        rw [hq1]
        have Q1 := Aside0.mk hq1
        clear hq1
        cases q1 with
        | false =>
          go_wp2_with fail
          go_ret
          exact ⟨by rw [rchk5 H0.out E12.out (by rw [Q1.out]; rfl)]; rfl, hx.below⟩
        | true =>
          go_wp2_with fail
          refine (kReg s _).mono ?_
          rintro e w3 ⟨rfl, hb⟩
          have hx := hx.step (below_of_drawn hb)
          clear hb
          have c0 := hx.c0
          have c1 := hx.c1
          have c2 := hx.c2
          have c3 := hx.c3
          have c4 := hx.c4
          have c5 := hx.c5
          obtain ⟨q2, hq2⟩ : ∃ b, regB s = b := ⟨_, rfl⟩
          rw [hq2]
          have Q2 := Aside0.mk hq2
          clear hq2
          cases q2 with
          | false =>
            go_wp2_with fail
            go_ret
            exact ⟨by rw [rchk5 H0.out E12.out (by rw [Q1.out, Q2.out]; rfl)]; rfl, hx.below⟩
          | true =>
            have E5 : Aside0 ((!regB d || !regB s) = false) := ⟨by rw [Q1.out, Q2.out]; rfl⟩
            by_cases l1 : f < -32768
            · go_wp2_with fail
              go_ret
              exact ⟨by rw [rchk4 H0.out E12.out E5.out (by simp [l1])]; rfl, hx.below⟩
            · by_cases l2 : f > 32767
              · go_wp2_with fail
                go_ret
                exact ⟨by rw [rchk4 H0.out E12.out E5.out (by simp [l2])]; rfl, hx.below⟩
              · have E4 : Aside0 ((decide (f < -32768) || decide (f > 32767)) = false) := ⟨by simp [l1, l2]⟩
                have EI := Aside0.mk (rchkI H0.out E12.out E5.out E4.out)
                go_wp2_with fail
                by_cases t5 : t = 5
                · subst t5
                  have RT := Aside0.mk ht
                  clear ht
                  by_cases i1 : im < 1
                  · have I1 := Aside0.mk i1
                    have d1 : decide (im < 1) = true := decide_eq_true i1
                    go_big_quiet ((go_at_call 22; exact Calls.quiet_of (kExt _)))
                    go_wp2_with fail
                    go_ret
                    exact ⟨by rw [EI.out, RT.out, show rimmB 5 im = false from by have j1 := I1.out; (first | (unfold rimmB; simp [j1]; done) | (unfold rimmB; simp [j1]; omega) | (unfold rimmB; simp [j1]; intros; omega))]; rfl, pw_below_drewN hx.below nq⟩
                  · have I1 : Aside0 (1 ≤ im) := ⟨by omega⟩
                    have d1 : decide (im < 1) = false := decide_eq_false (by omega)
                    by_cases i2 : im > 3
                    · have I2 := Aside0.mk i2
                      have d2 : decide (3 < im) = true := decide_eq_true i2
                      go_big_quiet ((go_at_call 22; exact Calls.quiet_of (kExt _)))
                      go_wp2_with fail
                      go_ret
                      exact ⟨by rw [EI.out, RT.out, show rimmB 5 im = false from by have j1 := I1.out; have j2 := I2.out; (first | (unfold rimmB; simp [j2]; done) | (unfold rimmB; simp [j2]; omega) | (unfold rimmB; simp [j2]; intros; omega))]; rfl, pw_below_drewN hx.below nq⟩
                    · have I2 : Aside0 (im ≤ 3) := ⟨by omega⟩
                      have d2 : decide (3 < im) = false := decide_eq_false (by omega)
                      have hwr : IntKind.u64.wrap im = im := wrapu (by have := I1.out; omega) (by have := I2.out; omega)
                      have kS : ∀ w, Calls Tryd.prog 22 #[.int .u64 im, .int .i64 32] w fun e w' => e = .returned (.int .i64 (extI im)) ∧ ∃ m, w' = w.drewN m := fun w => by
                        have k := kExt w
                        rw [hwr] at k
                        exact k
                      clear kExt hwr
                      by_cases ie : extI im = im
                      · have IE := Aside0.mk ie
                        have d3 : (extI im != im) = false := by simp [ie]
                        go_big_quiet ((go_at_call 22; exact Calls.quiet_of (kS _)))
                        go_wp2_with fail
                        go_ret
                        exact ⟨by rw [EI.out, RT.out, show rimmB 5 im = true from by have j1 := I1.out; have j2 := I2.out; have j3 := IE.out; (first | (unfold rimmB; simp [j3, j1, j2]; done) | (unfold rimmB; simp [j3, j1, j2]; omega) | (unfold rimmB; simp [j3, j1, j2]; intros; omega))]; rfl, pw_below_drewN hx.below nq⟩
                      · have IE := Aside0.mk ie
                        have d3 : (extI im != im) = true := by simp [ie]
                        go_big_quiet ((go_at_call 22; exact Calls.quiet_of (kS _)))
                        go_wp2_with fail
                        go_ret
                        exact ⟨by rw [EI.out, RT.out, show rimmB 5 im = false from by have j1 := I1.out; have j2 := I2.out; have j3 := IE.out; (first | (unfold rimmB; simp [j3]; done) | (unfold rimmB; simp [j3]; omega) | (unfold rimmB; simp [j3]; intros; omega))]; rfl, pw_below_drewN hx.below nq⟩
                · by_cases t11 : t = 11
                  · subst t11
                    have RT := Aside0.mk ht
                    clear ht
                    by_cases i1 : im < 0
                    · have I1 := Aside0.mk i1
                      have d1 : decide (im < 0) = true := decide_eq_true i1
                      go_big_quiet ((go_at_call 22; exact Calls.quiet_of (kExt _)))
                      go_wp2_with fail
                      go_ret
                      exact ⟨by rw [EI.out, RT.out, show rimmB 11 im = false from by have j1 := I1.out; (first | (unfold rimmB; simp [j1]; done) | (unfold rimmB; simp [j1]; omega) | (unfold rimmB; simp [j1]; intros; omega))]; rfl, pw_below_drewN hx.below nq⟩
                    · have I1 : Aside0 (0 ≤ im) := ⟨by omega⟩
                      have d1 : decide (im < 0) = false := decide_eq_false (by omega)
                      by_cases i2 : im > 254
                      · have I2 := Aside0.mk i2
                        have d2 : decide (254 < im) = true := decide_eq_true i2
                        go_big_quiet ((go_at_call 22; exact Calls.quiet_of (kExt _)))
                        go_wp2_with fail
                        go_ret
                        exact ⟨by rw [EI.out, RT.out, show rimmB 11 im = false from by have j1 := I1.out; have j2 := I2.out; (first | (unfold rimmB; simp [j2]; done) | (unfold rimmB; simp [j2]; omega) | (unfold rimmB; simp [j2]; intros; omega))]; rfl, pw_below_drewN hx.below nq⟩
                      · have I2 : Aside0 (im ≤ 254) := ⟨by omega⟩
                        have d2 : decide (254 < im) = false := decide_eq_false (by omega)
                        have hwr : IntKind.u64.wrap im = im := wrapu (by have := I1.out; omega) (by have := I2.out; omega)
                        have kS : ∀ w, Calls Tryd.prog 22 #[.int .u64 im, .int .i64 32] w fun e w' => e = .returned (.int .i64 (extI im)) ∧ ∃ m, w' = w.drewN m := fun w => by
                          have k := kExt w
                          rw [hwr] at k
                          exact k
                        clear kExt hwr
                        by_cases ie : extI im = im
                        · have IE := Aside0.mk ie
                          have d3 : (extI im != im) = false := by simp [ie]
                          go_big_quiet ((go_at_call 22; exact Calls.quiet_of (kS _)))
                          go_wp2_with fail
                          go_ret
                          exact ⟨by rw [EI.out, RT.out, show rimmB 11 im = true from by have j1 := I1.out; have j2 := I2.out; have j3 := IE.out; (first | (unfold rimmB; simp [j3, j1, j2]; done) | (unfold rimmB; simp [j3, j1, j2]; omega) | (unfold rimmB; simp [j3, j1, j2]; intros; omega))]; rfl, pw_below_drewN hx.below nq⟩
                        · have IE := Aside0.mk ie
                          have d3 : (extI im != im) = true := by simp [ie]
                          go_big_quiet ((go_at_call 22; exact Calls.quiet_of (kS _)))
                          go_wp2_with fail
                          go_ret
                          exact ⟨by rw [EI.out, RT.out, show rimmB 11 im = false from by have j1 := I1.out; have j2 := I2.out; have j3 := IE.out; (first | (unfold rimmB; simp [j3]; done) | (unfold rimmB; simp [j3]; omega) | (unfold rimmB; simp [j3]; intros; omega))]; rfl, pw_below_drewN hx.below nq⟩
                  · have RT := Aside0.mk ht
                    clear ht
                    have T5 := Aside0.mk t5
                    have T11 := Aside0.mk t11
                    have e5 : (t == 5) = false := by simp [t5]
                    have e11 : (t == 11) = false := by simp [t11]
                    by_cases t10 : t = 10
                    · subst t10
                      go_big_quiet ((go_at_call 22; exact Calls.quiet_of (kExt _)))
                      go_wp2_with fail
                      go_ret
                      exact ⟨by rw [EI.out, RT.out, show rimmB 10 im = true from by (first | (unfold rimmB; simp; done) | (unfold rimmB; simp; omega) | (unfold rimmB; simp; intros; omega))]; rfl, pw_below_drewN hx.below nq⟩
                    · have T10 := Aside0.mk t10
                      have e10 : (t != 10) = true := by simp [t10]
                      by_cases ie : extI im = im
                      · have IE := Aside0.mk ie
                        have d3 : (extI im != im) = false := by simp [ie]
                        go_big_quiet ((go_at_call 22; exact Calls.quiet_of (kExt _)))
                        go_wp2_with fail
                        go_ret
                        exact ⟨by rw [EI.out, RT.out, show rimmB t im = true from by have j1 := T5.out; have j2 := T11.out; have j4 := T10.out; have j3 := IE.out; (first | (unfold rimmB; simp [j3, j1, j2]; done) | (unfold rimmB; simp [j3, j1, j2]; omega) | (unfold rimmB; simp [j3, j1, j2]; intros; omega))]; rfl, pw_below_drewN hx.below nq⟩
                      · have IE := Aside0.mk ie
                        have d3 : (extI im != im) = true := by simp [ie]
                        go_big_quiet ((go_at_call 22; exact Calls.quiet_of (kExt _)))
                        go_wp2_with fail
                        go_ret
                        exact ⟨by rw [EI.out, RT.out, show rimmB t im = false from by have j1 := T5.out; have j2 := T11.out; have j4 := T10.out; have j3 := IE.out; (first | (unfold rimmB; simp [j3, j1, j2, j4]; done) | (unfold rimmB; simp [j3, j1, j2, j4]; omega) | (unfold rimmB; simp [j3, j1, j2, j4]; intros; omega))]; rfl, pw_below_drewN hx.below nq⟩
end Go.Proofs.YtnllfppkfdnjpabDoor.Q
