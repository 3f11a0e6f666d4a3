/- Chapter 5 in numbers: the reference's Identify. -/
import Derived.Test.YtnllfppkfdnjpabDoorPSl2
import Derived.Test.YtnllfppkfdnjpabDoorKx9
namespace Go.Proofs.YtnllfppkfdnjpabDoor.Q
open Go Go.RowKit Go.Proofs.YtnllfppkfdnjpabDoor.Ops Go.Proofs.YtnllfppkfdnjpabDoorW.PrintWords

/-! The reference's Identify -/
def skipR (n form s o i src off imm : Int) : Bool :=
  ((form == 0 || form == 2) && o != off) || (decide (n ≥ 35) && decide (n ≤ 43) && i != imm) || (decide (n ≥ 84) && s != src)
theorem facts_all : (List.range 86).map (fun n => (immS (Int.ofNat n) != 0, formS (Int.ofNat n) == 10 || formS (Int.ofNat n) == 11, (formS (Int.ofNat n) == 0 || formS (Int.ofNat n) == 2) && ((decide (n ≥ 35) && decide (n ≤ 43)) || decide (n ≥ 84)), (codeF (Int.ofNat n) false).2, (immS (Int.ofNat n) != 0) && (formS (Int.ofNat n) == 10 || formS (Int.ofNat n) == 11))) =
    (List.range 86).map (fun n => (decide (n ≥ 35) && decide (n ≤ 43), decide (n ≥ 84), false, true, false)) := by kernel_rfl
theorem skip_match (n : Nat) (hn : n < 86) (src off imm : Int) : skipR n (formS n) (srcS n) (offS n) (immS n) src off imm = !matchR (formS n) (srcS n) (offS n) (immS n) src off imm := by
  have h := of_range facts_all n hn
  simp only [Prod.mk.injEq] at h
  obtain ⟨h1, h2, h3, _, h4⟩ := h
  have e1 : (decide ((n : Int) ≥ 35) && decide ((n : Int) ≤ 43)) = (decide (n ≥ 35) && decide (n ≤ 43)) := by
    have a : decide ((n : Int) ≥ 35) = decide (n ≥ 35) := by rw [decide_eq_decide]; omega
    have b : decide ((n : Int) ≤ 43) = decide (n ≤ 43) := by rw [decide_eq_decide]; omega
    rw [a, b]
  have e2 : decide ((n : Int) ≥ 84) = decide (n ≥ 84) := by rw [decide_eq_decide]; omega
  unfold skipR matchR
  rw [e1, e2, ← h1, ← h2]
  rw [← h1, ← h2] at h3
  have hx : ∀ a b : Int, (a != b) = !(a == b) := fun _ _ => rfl
  rw [hx (offS n) off, hx (immS n) imm, hx (srcS n) src]
  simp only [show Int.ofNat n = (n : Int) from rfl] at h3 h4 ⊢
  clear h1 h2 e1 e2 hx
  generalize (formS n == 0 || formS n == 2) = p at *
  generalize (immS n != 0) = q at *
  generalize (formS n == 10 || formS n == 11) = r at *
  generalize (offS n == off) = x
  generalize (immS n == imm) = y
  generalize (srcS n == src) = z
  revert h3 h4
  revert p q r x y z
  decide
theorem code_ok (n : Nat) (hn : n < 86) : (codeF n false).2 = true := by
  have h := of_range facts_all n hn
  simp only [Prod.mk.injEq] at h
  exact h.2.2.2.1
def fromF (code src off imm : Int) : Nat → Nat → Option (Int × Bool × Bool)
  | 0, _ => none
  | d + 1, n => (stepF n code src off imm).or (fromF code src off imm d (n + 1))
theorem fromF_to (code src off imm : Int) : ∀ d n, (identTo n code src off imm).or (fromF code src off imm d n) = identTo (n + d) code src off imm
  | 0, n => by simp [fromF]
  | d + 1, n => by
    have := fromF_to code src off imm d (n + 1)
    rw [show n + (d + 1) = n + 1 + d by omega, ← this]
    show _ = ((identTo n code src off imm).or (stepF n code src off imm)).or _
    rw [Option.or_assoc]
    rfl
theorem stepF_skip {n : Nat} {code src off imm : Int} (h : matchR (opForm n) (opSrc n) (opOff n) (opImm n) src off imm = false) : stepF n code src off imm = none := by
  simp [stepF, h]
theorem rfix_f (n : Int) (h : Is n) : slotcoderef03_Fixed.f n = some (srcS n, offS n, immS n) := by
  unfold slotcoderef03_Fixed.f
  unfold Is at h
  rw [if_pos h]
theorem ref_from (code src off imm : Int) : ∀ (d n k : Nat), n + d = 86 → 2 * d + 8 ≤ k → slotcoderef03_Identify.l0 k code src off imm n = some ((fromF code src off imm d n).getD (0, false, false))
  | 0, n, k, hn, hk => by
    obtain ⟨k, rfl⟩ : ∃ m, k = m + 1 := ⟨k - 1, by omega⟩
    simp only [slotcoderef03_Identify.l0]
    rw [if_neg (by omega)]
    rfl
  | d + 1, n, k, hn, hk => by
    obtain ⟨k, rfl⟩ : ∃ m, k = m + 2 := ⟨k - 2, by omega⟩
    have hlt : n < 86 := by omega
    have hi : Is (n : Int) := ⟨by omega, by omega⟩
    have ih := ref_from code src off imm d (n + 1) k (by omega) (by omega)
    have hw : wrap64 ((n : Int) + 1) = ((n + 1 : Nat) : Int) := by unfold wrap64; omega
    have hj : ∀ b, b = skipR n (formS n) (srcS n) (offS n) (immS n) src off imm → slotcoderef03_Identify.j1 (k + 1) code src off imm n b = some ((fromF code src off imm (d + 1) n).getD (0, false, false)) := by
      intro b hb
      rw [skip_match n hlt] at hb
      obtain ⟨r1, r2, r3, r4⟩ := row_nat hlt
      rw [r1, r2, r3, r4] at hb
      simp only [slotcoderef03_Identify.j1, slotcoderef03_Code.f]
      rw [hw, ih]
      simp only [Option.bind_some]
      cases hm : matchR (opForm n) (opSrc n) (opOff n) (opImm n) src off imm with
      | false =>
        rw [hm] at hb
        subst hb
        simp only [Bool.not_false, if_true, fromF, stepF_skip hm, Option.none_or]
      | true =>
        rw [hm] at hb
        subst hb
        simp only [Bool.not_true, Bool.false_eq_true, if_false]
        have hok := code_ok n hlt
        by_cases c1 : (codeF n false).1 = code
        · rw [if_pos c1]
          have : stepF n code src off imm = some ((n : Int), false, true) := by simp [stepF, hm, hok, c1]
          simp only [fromF, this, Option.or, Option.getD]
        · rw [if_neg c1]
          by_cases c2 : (codeF n true).2 = true
          · rw [if_pos c2]
            by_cases c3 : (codeF n true).1 = code
            · rw [if_pos c3]
              have : stepF n code src off imm = some ((n : Int), true, true) := by simp [stepF, hm, c1, c2, c3]
              simp only [fromF, this, Option.or, Option.getD]
            · rw [if_neg c3]
              have : stepF n code src off imm = none := by simp [stepF, hm, c1, c3]
              simp only [fromF, this, Option.none_or]
          · rw [if_neg c2]
            have : stepF n code src off imm = none := by simp [stepF, hm, c1, c2]
            simp only [fromF, this, Option.none_or]
    simp only [slotcoderef03_Identify.l0]
    rw [if_pos (by omega), rfix_f n hi, form_f (k + 1) (by omega) n]
    simp only [Option.bind_some]
    have two : ((2 : Int) = 0) = False := by simp
    by_cases f0 : formS n = 0 <;> by_cases f2 : formS n = 2 <;> by_cases a1 : offS n = off <;> by_cases a2 : (n : Int) ≥ 35 <;> by_cases a3 : (n : Int) ≤ 43 <;> by_cases a4 : immS n = imm <;> by_cases a5 : (n : Int) ≥ 84
    all_goals first
      | (exfalso; omega)
      | (simp only [f0, f2, two, a1, a2, a3, a4, a5, if_true, if_false]
         refine hj _ ?_
         simp [skipR, f0, f2, a1, a2, a3, a4, a5, bne])
theorem rident_f (k : Nat) (hk : 200 ≤ k) (code src off imm : Int) : slotcoderef03_Identify.f k code src off imm = some (identF code src off imm) := by
  unfold slotcoderef03_Identify.f
  have h := ref_from code src off imm 86 0 k (by omega) (by omega)
  have h2 := fromF_to code src off imm 86 0
  have h3 : fromF code src off imm 86 0 = identTo 86 code src off imm := by rw [← h2]; rfl
  rw [h3] at h
  exact h
end Go.Proofs.YtnllfppkfdnjpabDoor.Q
