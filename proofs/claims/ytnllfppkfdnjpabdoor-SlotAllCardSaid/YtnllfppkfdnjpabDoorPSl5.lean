/- Chapter 5 in numbers, fifth part: the reference's Decode gives decB. -/
import Derived.Test.YtnllfppkfdnjpabDoorPSl3
import Derived.Test.YtnllfppkfdnjpabDoorPSl2r
import Derived.Test.YtnllfppkfdnjpabDoorKx12
namespace Go.Proofs.YtnllfppkfdnjpabDoor.Q
open Go Go.RowKit Go.Proofs.YtnllfppkfdnjpabDoor.Ops Go.Proofs.YtnllfppkfdnjpabDoorW.PrintWords

theorem power16 : slotcoderef01_Power.f 80 16 = some 65536 := by kernel_rfl
theorem power15 : slotcoderef01_Power.f 80 15 = some 32768 := by kernel_rfl
theorem rext16 (k : Nat) (hk : 80 ≤ k) {x : Int} (h0 : 0 ≤ x) (h1 : x < 65536) : slotcoderef01_Extend.f k x 16 = some (sx16 x) := by
  refine at_rounds (g := fun k => slotcoderef01_Extend.f k x 16) (fun k => slotcoderef01_Extend.mono x 16 k) hk ?_
  show slotcoderef01_Extend.f 80 x 16 = _
  unfold slotcoderef01_Extend.f
  rw [show slotcoderef01_Width.f 16 = some true from by kernel_rfl, show wrap64 (16 - 1) = 15 from by unfold wrap64; omega, power16, power15]
  simp only [Option.bind_some, if_true, if_neg (show ¬ (16 : Int) = 64 by omega), if_neg (show ¬ (65536 : Int) = 0 by omega), Int.tmod_eq_emod_of_nonneg h0, Int.emod_eq_of_lt h0 h1]
  unfold sx16 wrap64
  split
  · congr 1
    omega
  · congr 1
    omega
theorem rext32 (k : Nat) (hk : 80 ≤ k) {x : Int} (h0 : 0 ≤ x) (h1 : x < 4294967296) : slotcoderef01_Extend.f k x 32 = some (sx32 x) := by
  refine at_rounds (g := fun k => slotcoderef01_Extend.f k x 32) (fun k => slotcoderef01_Extend.mono x 32 k) hk ?_
  show slotcoderef01_Extend.f 80 x 32 = _
  rw [ext32_f, Int.tmod_eq_emod_of_nonneg h0, Int.emod_eq_of_lt h0 h1]
  unfold sx32 wrap64
  split
  · congr 1
    omega
  · congr 1
    omega
theorem rget_step (k : Nat) (l : List Int) (j acc i : Int) (hb : Bytes l) (hj : 0 ≤ j) (hj2 : j ≤ 1000) (hi : 0 ≤ i) (hi2 : i ≤ 100) (hl : j + i < l.length) (h0 : 0 ≤ acc) (h1 : acc < 4294967296) :
    slotcoderef05_Get.l0 (k + 1) l j acc i = slotcoderef05_Get.l0 k l j (acc * 256 + rd l (j + i)) (i - 1) := by
  have hr := rd_byte hb (j + i)
  have e1 : wrap64 (j + i) = j + i := by unfold wrap64; omega
  have e2 : wrap64 (i - 1) = i - 1 := by unfold wrap64; omega
  have e3 : IntKind.u64.wrap ((IntKind.u64.wrap (acc * 256)) + (IntKind.u64.wrap (rd l (j + i)))) = acc * 256 + rd l (j + i) := by
    rw [u64w, u64w, u64w]
    omega
  rw [slotcoderef05_Get.l0, e1, e2, e3, if_pos hi, if_pos (by omega), if_pos (by omega)]
theorem rget_end (k : Nat) (l : List Int) (j acc i : Int) (h : i < 0) : slotcoderef05_Get.l0 (k + 1) l j acc i = some acc := by
  rw [slotcoderef05_Get.l0, if_neg (by omega)]
theorem rget2 (k : Nat) (hk : 6 ≤ k) (l : List Int) (hb : Bytes l) (j : Int) (hj : 0 ≤ j) (hj2 : j ≤ 1000) (hl : j + 2 ≤ l.length) : slotcoderef05_Get.f k l j 2 = some (g2 l j) := by
  obtain ⟨k, rfl⟩ : ∃ m, k = m + 1 + 1 + 1 := ⟨k - 3, by omega⟩
  have a1 := rd_byte hb (j + 1)
  unfold slotcoderef05_Get.f
  rw [show wrap64 (2 - 1) = 1 by unfold wrap64; omega, rget_step _ l j 0 1 hb hj hj2 (by omega) (by omega) (by omega) (by omega) (by omega), rget_step _ l j _ _ hb hj hj2 (by omega) (by omega) (by omega) (by omega) (by omega), rget_end _ l j _ _ (by omega)]
  rw [show j + ((1 : Int) - 1) = j by omega]
  unfold g2
  congr 1
  omega
theorem rget4 (k : Nat) (hk : 6 ≤ k) (l : List Int) (hb : Bytes l) (j : Int) (hj : 0 ≤ j) (hj2 : j ≤ 1000) (hl : j + 4 ≤ l.length) : slotcoderef05_Get.f k l j 4 = some (g4 l j) := by
  obtain ⟨k, rfl⟩ : ∃ m, k = m + 1 + 1 + 1 + 1 + 1 := ⟨k - 5, by omega⟩
  have a1 := rd_byte hb (j + 1)
  have a2 := rd_byte hb (j + 2)
  have a3 := rd_byte hb (j + 3)
  unfold slotcoderef05_Get.f
  rw [show wrap64 (4 - 1) = 3 by unfold wrap64; omega, rget_step _ l j 0 3 hb hj hj2 (by omega) (by omega) (by omega) (by omega) (by omega), show (3 : Int) - 1 = 2 by omega,
    rget_step _ l j _ 2 hb hj hj2 (by omega) (by omega) (by omega) (by omega) (by omega), show (2 : Int) - 1 = 1 by omega,
    rget_step _ l j _ 1 hb hj hj2 (by omega) (by omega) (by omega) (by omega) (by omega), show (1 : Int) - 1 = 0 by omega,
    rget_step _ l j _ 0 hb hj hj2 (by omega) (by omega) (by omega) (by omega) (by omega), rget_end _ l j _ _ (by omega)]
  rw [show j + (0 : Int) = j by omega]
  unfold g4
  congr 1
  omega
theorem rdec_f (k : Nat) (hk : 260 ≤ k) (l : List Int) (hb : Bytes l) : slotcoderef05_Decode.f k l = some (decB l) := by
  obtain ⟨k, rfl⟩ : ∃ m, k = m + 1 + 1 := ⟨k - 2, by omega⟩
  have r1 := rd_byte hb 1
  have q2 := g2_range hb 2
  have q4 := g4_range hb 4
  have w1 : wrap64 (Int.tdiv (wrap64 (rd l 1)) 16) = rd l 1 / 16 := by
    have e : wrap64 (rd l 1) = rd l 1 := by unfold wrap64; omega
    rw [e, Int.tdiv_eq_ediv_of_nonneg r1.1]
    unfold wrap64
    omega
  have w2 : Int.tmod (wrap64 (rd l 1)) 16 = rd l 1 % 16 := by
    have e : wrap64 (rd l 1) = rd l 1 := by unfold wrap64; omega
    rw [e, Int.tmod_eq_emod_of_nonneg r1.1]
  have hsx := sx16_range _ q2.1 q2.2
  have hsy := sx32_range _ q4.1 q4.2
  have hid := @ident_ok (rd l 0) (rd l 1 / 16) (sx16 (g2 l 2)) (sx32 (g4 l 4))
  by_cases h8 : (l.length : Int) < 8
  · have e1 : decB l = (0, false, 0, 0, 0, 0, 0, 17) := by unfold decB; exact if_pos h8
    rw [e1]
    unfold slotcoderef05_Decode.f
    exact if_pos h8
  · have e1 : decB l = decQ l (identF (rd l 0) (rd l 1 / 16) (sx16 (g2 l 2)) (sx32 (g4 l 4))) := by unfold decB; exact if_neg h8
    rw [e1]
    clear e1
    unfold slotcoderef05_Decode.f
    refine (if_neg h8).trans ?_
    refine (if_pos (by omega)).trans ?_
    refine bindE (rget2 _ (by omega) l hb 2 (by omega) (by omega) (by omega)) ?_
    refine bindE (rext16 _ (by omega) q2.1 q2.2) ?_
    refine bindE (rget4 _ (by omega) l hb 4 (by omega) (by omega) (by omega)) ?_
    refine bindE (rext32 _ (by omega) q4.1 q4.2) ?_
    refine (if_pos (by omega)).trans ?_
    rw [w1, w2]
    have hI := rident_f (k + 1 + 1) (by omega) (rd l 0) (rd l 1 / 16) (sx16 (g2 l 2)) (sx32 (g4 l 4))
    generalize identF (rd l 0) (rd l 1 / 16) (sx16 (g2 l 2)) (sx32 (g4 l 4)) = q at hI hid ⊢
    refine bindE hI ?_
    clear hI
    obtain ⟨o, r, ok⟩ := q
    cases ok with
    | false =>
      rw [decQ_bad]
      exact if_neg (by simp)
    | true =>
      obtain ⟨m, hm, e⟩ := hid rfl
      obtain rfl : o = (m : Int) := e
      rw [decQ_ok]
      have sm := smalls (o := (m : Int)) ⟨by omega, by omega⟩
      have s1 := sm.s0; have s2 := sm.s1; have s3 := sm.o0; have s4 := sm.o1; have s5 := sm.i0; have s6 := sm.i1
      have hs := slots_12 hm
      have u1 : wrap64 (rd l 1 / 16 - srcS m) = rd l 1 / 16 - srcS m := by unfold wrap64; omega
      have u2 : wrap64 (sx16 (g2 l 2) - offS m) = sx16 (g2 l 2) - offS m := by unfold wrap64; omega
      have u3 : wrap64 (sx32 (g4 l 4) - immS m) = sx32 (g4 l 4) - immS m := by unfold wrap64; omega
      obtain ⟨fx, hF, fx1, fx2, fx3⟩ : ∃ t : Int × Int × Int, slotcoderef03_Fixed.f (m : Int) = some t ∧ t.1 = srcS m ∧ t.2.1 = offS m ∧ t.2.2 = immS m := ⟨_, rfix_f m ⟨by omega, by omega⟩, rfl, rfl, rfl⟩
      have hchk : ∀ (sx y : Int), -40000 ≤ sx → sx ≤ 40000 → -9223372036854775808 ≤ y → y ≤ 9223372036854775807 → slotcoderef04_Check.f (m : Int) r (rd l 1 % 16) (rd l 1 / 16 - srcS m) sx y = some (checkF (m : Int) r (rd l 1 % 16) (rd l 1 / 16 - srcS m) sx y) := by
        intro sx y a b c d
        unfold slotcoderef04_Check.f
        rw [check_eq _ _ _ _ _ _ (by omega) (by omega) c d]
      have hj1 : ∀ b, b = decide (rd l 1 % 16 > 10 ∨ rd l 1 / 16 > 10) → ¬ (l.length : Int) < 8 * slotsT (formS m) →
          slotcoderef05_Decode.j1 (k + 1) l (rd l 1 % 16) (rd l 1 / 16) (sx16 (g2 l 2)) (sx32 (g4 l 4)) m r (slotsT (formS m)) b 0 false 0 0 0 0 = some (
          if rd l 1 % 16 > 10 ∨ rd l 1 / 16 > 10 then (0, false, 0, 0, 0, 0, 0, 5) else
          if slotsT (formS m) = 2 then
            if g4 l 8 = 0 then
              if checkF m r (rd l 1 % 16) (rd l 1 / 16 - srcS m) (sx16 (g2 l 2) - offS m) (wrap64 (g4 l 12 * 4294967296 + g4 l 4)) = 0 then
                (↑m, r, rd l 1 % 16, rd l 1 / 16 - srcS m, sx16 (g2 l 2) - offS m, wrap64 (g4 l 12 * 4294967296 + g4 l 4), 2, 0)
              else (0, false, 0, 0, 0, 0, 0, 12)
            else (0, false, 0, 0, 0, 0, 0, 12)
          else
            if checkF m r (rd l 1 % 16) (rd l 1 / 16 - srcS m) (sx16 (g2 l 2) - offS m) (sx32 (g4 l 4) - immS m) = 0 then
              (↑m, r, rd l 1 % 16, rd l 1 / 16 - srcS m, sx16 (g2 l 2) - offS m, sx32 (g4 l 4) - immS m, slotsT (formS m), 0)
            else (0, false, 0, 0, 0, 0, 0, 12)) := by
        intro b hb' hl
        rw [slotcoderef05_Decode.j1]
        by_cases h5 : rd l 1 % 16 > 10 ∨ rd l 1 / 16 > 10
        · rw [if_pos h5]
          exact if_pos (by rw [hb']; exact decide_eq_true h5)
        · rw [if_neg h5]
          refine (if_neg (by rw [hb']; simpa using h5)).trans ?_
          refine bindE hF ?_
          rw [fx1, fx2, fx3, u1, u2, u3]
          by_cases h2 : slotsT (formS m) = 2
          · rw [if_pos h2, if_pos h2]
            refine bindE (rget4 k (by omega) l hb 8 (by omega) (by omega) (by omega)) ?_
            by_cases h0 : g4 l 8 = 0
            · rw [if_pos h0, if_pos h0]
              refine bindE (rget4 k (by omega) l hb 12 (by omega) (by omega) (by omega)) ?_
              refine bindE (rget4 k (by omega) l hb 4 (by omega) (by omega) (by omega)) ?_
              have q12 := g4_range hb 12
              have eo : wrap64 (IntKind.u64.wrap ((IntKind.u64.wrap (g4 l 12 * 4294967296)) + g4 l 4)) = wrap64 (g4 l 12 * 4294967296 + g4 l 4) := by
                rw [u64w, u64w]
                congr 1
                omega
              rw [eo]
              have hwr : -9223372036854775808 ≤ wrap64 (g4 l 12 * 4294967296 + g4 l 4) ∧ wrap64 (g4 l 12 * 4294967296 + g4 l 4) ≤ 9223372036854775807 := by unfold wrap64; omega
              refine bindE (hchk _ _ (by omega) (by omega) hwr.1 hwr.2) ?_
              by_cases hc : checkF m r (rd l 1 % 16) (rd l 1 / 16 - srcS m) (sx16 (g2 l 2) - offS m) (wrap64 (g4 l 12 * 4294967296 + g4 l 4)) = 0
              · rw [if_pos hc, if_pos hc]
                rw [h2]
              · rw [if_neg hc, if_neg hc]
            · rw [if_neg h0, if_neg h0]
          · rw [if_neg h2, if_neg h2]
            refine bindE (hchk _ _ (by omega) (by omega) (by omega) (by omega)) ?_
            by_cases hc : checkF m r (rd l 1 % 16) (rd l 1 / 16 - srcS m) (sx16 (g2 l 2) - offS m) (sx32 (g4 l 4) - immS m) = 0
            · rw [if_pos hc, if_pos hc]
            · rw [if_neg hc, if_neg hc]
      have hj0 : ∀ b, b = decide ((l.length : Int) < 8 * slotsT (formS m)) →
          slotcoderef05_Decode.j0 (k + 1 + 1) l (rd l 1 % 16) (rd l 1 / 16) (sx16 (g2 l 2)) (sx32 (g4 l 4)) m r (slotsT (formS m)) b 0 false 0 0 0 0 = some (
          if (l.length : Int) < 8 * slotsT (formS m) then (0, false, 0, 0, 0, 0, 0, 17) else
          if rd l 1 % 16 > 10 ∨ rd l 1 / 16 > 10 then (0, false, 0, 0, 0, 0, 0, 5) else
          if slotsT (formS m) = 2 then
            if g4 l 8 = 0 then
              if checkF m r (rd l 1 % 16) (rd l 1 / 16 - srcS m) (sx16 (g2 l 2) - offS m) (wrap64 (g4 l 12 * 4294967296 + g4 l 4)) = 0 then
                (↑m, r, rd l 1 % 16, rd l 1 / 16 - srcS m, sx16 (g2 l 2) - offS m, wrap64 (g4 l 12 * 4294967296 + g4 l 4), 2, 0)
              else (0, false, 0, 0, 0, 0, 0, 12)
            else (0, false, 0, 0, 0, 0, 0, 12)
          else
            if checkF m r (rd l 1 % 16) (rd l 1 / 16 - srcS m) (sx16 (g2 l 2) - offS m) (sx32 (g4 l 4) - immS m) = 0 then
              (↑m, r, rd l 1 % 16, rd l 1 / 16 - srcS m, sx16 (g2 l 2) - offS m, sx32 (g4 l 4) - immS m, slotsT (formS m), 0)
            else (0, false, 0, 0, 0, 0, 0, 12)) := by
        intro b hb'
        rw [slotcoderef05_Decode.j0]
        by_cases hl : (l.length : Int) < 8 * slotsT (formS m)
        · rw [if_pos hl]
          exact if_pos (by rw [hb']; exact decide_eq_true hl)
        · rw [if_neg hl]
          refine (if_neg (by rw [hb']; simpa using hl)).trans ?_
          by_cases hd : rd l 1 % 16 > 10
          · exact (if_pos hd).trans (hj1 true (decide_eq_true (Or.inl hd)).symm hl)
          · refine (if_neg hd).trans (hj1 _ ?_ hl)
            rw [decide_eq_decide]
            omega
      refine (if_pos rfl).trans ?_
      refine bindE (rslots_f _ (by omega) m) ?_
      by_cases h2 : slotsT (formS m) = 2
      · refine (if_pos h2).trans (hj0 _ ?_)
        rw [h2]
        rw [decide_eq_decide]
        omega
      · refine (if_neg h2).trans (hj0 _ ?_)
        have : ¬ (l.length : Int) < 8 * slotsT (formS m) := by omega
        exact (decide_eq_false this).symm
end Go.Proofs.YtnllfppkfdnjpabDoor.Q
