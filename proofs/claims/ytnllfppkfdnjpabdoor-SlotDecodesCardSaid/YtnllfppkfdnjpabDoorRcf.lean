/- The reference's Check in the printed form; what Extend gives at 32 bits. -/
import Derived.Test.YtnllfppkfdnjpabDoorRck
import Derived.Test.YtnllfppkfdnjpabDoorKx5
namespace Go.Proofs.YtnllfppkfdnjpabDoor.Q
open Go Go.RowKit Go.Proofs.YtnllfppkfdnjpabDoor.Ops Go.Proofs.YtnllfppkfdnjpabDoorW.PrintWords

theorem power32 : slotcoderef01_Power.f 80 32 = some 4294967296 := by kernel_rfl
theorem power31 : slotcoderef01_Power.f 80 31 = some 2147483648 := by kernel_rfl
theorem ext32_f (x : Int) : slotcoderef01_Extend.f 80 x 32 = some (if Int.tmod x 4294967296 ≥ 2147483648 then wrap64 (wrap64 (Int.tmod x 4294967296) - wrap64 4294967296) else wrap64 (Int.tmod x 4294967296)) := by
  unfold slotcoderef01_Extend.f
  rw [show slotcoderef01_Width.f 32 = some true from by kernel_rfl, show wrap64 (32 - 1) = 31 from by unfold wrap64; omega, power32, power31]
  simp only [Option.bind_some, if_true, if_neg (show ¬ (32 : Int) = 64 by omega), if_neg (show ¬ (4294967296 : Int) = 0 by omega)]
  split <;> rfl
theorem extI_f (im : Int) : slotcoderef01_Extend.f 80 (IntKind.u64.wrap im) 32 = some (extI im) := by
  unfold extI
  rw [ext32_f]
  rfl
theorem u64w (x : Int) : IntKind.u64.wrap x = x % 18446744073709551616 := by
  simp [IntKind.wrap, IntKind.signed, IntKind.bits]
theorem extI_eq (im : Int) : (extI im = im) ↔ (-2147483648 ≤ im ∧ im ≤ 2147483647) := by
  unfold extI
  rw [ext32_f, Option.getD_some, u64w, Int.tmod_eq_emod_of_nonneg (by omega)]
  unfold wrap64
  split <;> omega

theorem shlE (x : Int) (n m : Nat) (p : Int) (h : n ≤ 64) (hm : (n : Int) = m) (hp : (2 : Int) ^ n = p) : shl .u64 x m = x * p % 18446744073709551616 := by
  unfold shl
  rw [← hm, Int.toNat_natCast, show IntKind.u64.bits = 64 from rfl, Nat.min_eq_left h, hp, u64w]
theorem shrE (x : Int) (n m : Nat) (p : Int) (h : n ≤ 64) (hm : (n : Int) = m) (hp : (2 : Int) ^ n = p) : shr .i64 x m = x / p := by
  unfold shr
  rw [← hm, Int.toNat_natCast, show IntKind.i64.bits = 64 from rfl, Nat.min_eq_left h, hp]
theorem numExt32 (x : Int) : num_Extend.f x 32 = some (wrap64 (x * 4294967296 % 18446744073709551616) / 4294967296) := by
  unfold num_Extend.f num_known.f
  rw [show knownB 32 = true from rfl, show wrap64 (64 - 32) = ((32 : Nat) : Int) from by unfold wrap64; omega, shlE _ 32 32 4294967296 (by omega) rfl (by decide), shrE _ 32 32 4294967296 (by omega) rfl (by decide)]
  rfl
theorem numExt16 (x : Int) : num_Extend.f x 16 = some (wrap64 (x * 281474976710656 % 18446744073709551616) / 281474976710656) := by
  unfold num_Extend.f num_known.f
  rw [show knownB 16 = true from rfl, show wrap64 (64 - 16) = ((48 : Nat) : Int) from by unfold wrap64; omega, shlE _ 48 48 281474976710656 (by omega) rfl (by decide), shrE _ 48 48 281474976710656 (by omega) rfl (by decide)]
  rfl
theorem fit32 (n : Int) (h1 : -9223372036854775808 ≤ n) (h2 : n ≤ 9223372036854775807) : fitB n 32 = (decide (-2147483648 ≤ n) && decide (n ≤ 2147483647)) := by
  have e : num_Fits.f n 32 = some (wrap64 (IntKind.u64.wrap n * 4294967296 % 18446744073709551616) / 4294967296 == n) := by
    unfold num_Fits.f num_known.f
    rw [numExt32]
    rfl
  unfold fitB
  rw [e, Option.getD_some, u64w]
  unfold wrap64
  rw [Bool.eq_iff_iff]
  simp only [beq_iff_eq, Bool.and_eq_true, decide_eq_true_eq]
  omega
theorem fit16 (n : Int) (h1 : -9223372036854775808 ≤ n) (h2 : n ≤ 9223372036854775807) : fitB n 16 = (decide (-32768 ≤ n) && decide (n ≤ 32767)) := by
  have e : num_Fits.f n 16 = some (wrap64 (IntKind.u64.wrap n * 281474976710656 % 18446744073709551616) / 281474976710656 == n) := by
    unfold num_Fits.f num_known.f
    rw [numExt16]
    rfl
  unfold fitB
  rw [e, Option.getD_some, u64w]
  unfold wrap64
  rw [Bool.eq_iff_iff]
  simp only [beq_iff_eq, Bool.and_eq_true, decide_eq_true_eq]
  omega

/-- The reference's Check is Check, at every instruction that Go can hold. -/
theorem check_eq (o : Int) (r : Bool) (d s f i : Int) (f1 : -9223372036854775808 ≤ f) (f2 : f ≤ 9223372036854775807) (i1 : -9223372036854775808 ≤ i) (i2 : i ≤ 9223372036854775807) : rcheckF o r d s f i = checkF o r d s f i := by
  unfold rcheckF checkF
  by_cases h0 : formS o < 0
  · rw [if_pos h0, if_pos h0]
  · rw [if_neg h0, if_neg h0]
    cases r3B o r with
    | true => simp
    | false =>
      cases r4B d s f i (usesT (formS o) r) with
      | true => simp
      | false =>
        simp only [Bool.or_self, Bool.false_eq_true, if_false]
        cases (!regB d || !regB s) with
        | true => rfl
        | false =>
          simp only [Bool.false_eq_true, if_false]
          have e6 : r6B o f i = ((decide (f < -32768) || decide (f > 32767)) || !rimmB (formS o) i) := by
            unfold r6B
            rw [fit16 f f1 f2]
            have ei : immB o i = rimmB (formS o) i := by
              unfold immB rimmB
              have hx := extI_eq i
              rw [fit32 i i1 i2, Bool.eq_iff_iff]
              by_cases a : formS o = 10
              · simp [a]
              · by_cases b : formS o = 5
                · simp [b]
                  omega
                · by_cases c : formS o = 11
                  · simp [c]
                    omega
                  · simp [a, b, c]
                    omega
            rw [ei, Bool.eq_iff_iff]
            simp
          rw [e6]
          cases (decide (f < -32768) || decide (f > 32767)) <;> rfl

def slotcoderef04_Check.f (a0_0 : Int) (a0_1 : Bool) (a0_2 a0_3 a0_4 a0_5 : Int) : Option Int := some (rcheckF a0_0 a0_1 a0_2 a0_3 a0_4 a0_5)
theorem slotcoderef04_Check.calls (a0_0 : Int) (a0_1 : Bool) (a0_2 : Int) (a0_3 : Int) (a0_4 : Int) (a0_5 : Int) (r : Int) (w : World) (h : slotcoderef04_Check.f a0_0 a0_1 a0_2 a0_3 a0_4 a0_5 = some r) :
    Calls Tryd.prog 28 #[.agg #[.int .i64 a0_0, .bool a0_1, .int .i64 a0_2, .int .i64 a0_3, .int .i64 a0_4, .int .i64 a0_5]] w fun e w' => e = .returned (.int .i64 r) ∧ Below w.heap.size w w' := by
  obtain rfl := Option.some.inj h
  exact rcheck_any extI_f _ _ _ _ _ _ w
end Go.Proofs.YtnllfppkfdnjpabDoor.Q
