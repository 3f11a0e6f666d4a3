/- What cond.Holds and its reference come to: plain laws. -/
import Derived.Test.YtnllfppkfdnjpaaDoorAl7
import Derived.Test.YtnllfppkfdnjpaaDoorIx3h
import Derived.Laws.BitsLemmas
namespace Go.Proofs.YtnllfppkfdnjpaaDoor.Q
open Go Go.RowKit Go.Proofs.YtnllfppkfdnjpaaDoor.Ops Go.Proofs.YtnllfppkfdnjpaaDoorW.PrintWords

theorem u64C (x : Int) : IntKind.u64.wrap x = x % 18446744073709551616 := by
  simp [IntKind.wrap, IntKind.signed, IntKind.bits]
theorem shlC (x : Int) (n m : Nat) (p : Int) (h : n ≤ 64) (hm : (n : Int) = m) (hp : (2 : Int) ^ n = p) : shl .u64 x m = x * p % 18446744073709551616 := by
  unfold shl
  rw [← hm, Int.toNat_natCast, show IntKind.u64.bits = 64 from rfl, Nat.min_eq_left h, hp, u64C]
theorem shrC (x : Int) (n m : Nat) (p : Int) (h : n ≤ 64) (hm : (n : Int) = m) (hp : (2 : Int) ^ n = p) : shr .i64 x m = x / p := by
  unfold shr
  rw [← hm, Int.toNat_natCast, show IntKind.i64.bits = 64 from rfl, Nat.min_eq_left h, hp]
/-- The last n bits as a signed number. -/
def sx (n A : Int) : Int := if n = 64 then wrap64 A else wrap64 (A * 4294967296 % 18446744073709551616) / 4294967296
theorem ext_sx {n : Int} (hn : n = 64 ∨ n = 32) (A : Int) (h0 : 0 ≤ A) (h1 : A ≤ 18446744073709551615) : num_Extend.f A n = some (sx n A) := by
  unfold num_Extend.f num_known.f sx
  rcases hn with rfl | rfl
  · rw [show knownB 64 = true from rfl, show wrap64 (64 - 64) = ((0 : Nat) : Int) from by unfold wrap64; omega, shlC _ 0 0 1 (by omega) rfl (by decide), shrC _ 0 0 1 (by omega) rfl (by decide)]
    simp only [Option.bind_some, if_true, Int.mul_one, Int.ediv_one]
    rw [show A % 18446744073709551616 = A by omega]
    rfl
  · rw [show knownB 32 = true from rfl, show wrap64 (64 - 32) = ((32 : Nat) : Int) from by unfold wrap64; omega, shlC _ 32 32 4294967296 (by omega) rfl (by decide), shrC _ 32 32 4294967296 (by omega) rfl (by decide)]
    rfl

/-! Which operations have a condition. -/
theorem cond_form : (List.range 86).map (fun n => formS (Int.ofNat n) == 4) = (List.range 86).map (fun n => decide (45 ≤ Int.ofNat n) && decide (Int.ofNat n ≤ 66)) := by kernel_rfl
theorem go_form : (List.range 86).map (fun n => formS (Int.ofNat n) == 3) = (List.range 86).map (fun n => Int.ofNat n == 44) := by kernel_rfl
theorem cond_bits : (List.range 86).map (fun n => !(decide (45 ≤ Int.ofNat n) && decide (Int.ofNat n ≤ 66)) || bitsS (Int.ofNat n) == (if Int.ofNat n ≤ 55 then 64 else 32)) = (List.range 86).map (fun _ => true) := by kernel_rfl
theorem in_rangeC {α : Type} {f g : Int → α} (h : (List.range 86).map (fun n => f (Int.ofNat n)) = (List.range 86).map (fun n => g (Int.ofNat n))) (n : Int) (hn : Is n) : f n = g n := by
  obtain ⟨m, rfl⟩ := Int.eq_ofNat_of_zero_le hn.1
  exact of_range h m (by have := hn.2; omega)
theorem formS_outC {n : Int} (h : ¬ Is n) : formS n = -1 := by simp only [formS, rowS, if_neg h]
theorem form4_iff (o : Int) : formS o = 4 ↔ 45 ≤ o ∧ o ≤ 66 := by
  by_cases h : Is o
  · have e := in_rangeC (f := fun n => formS n == 4) (g := fun n => decide (45 ≤ n) && decide (n ≤ 66)) cond_form o h
    rw [Bool.eq_iff_iff] at e
    simpa using e
  · rw [formS_outC h]
    unfold Is at h
    omega
theorem form3_iff (o : Int) : formS o = 3 ↔ o = 44 := by
  by_cases h : Is o
  · have e := in_rangeC (f := fun n => formS n == 3) (g := fun n => n == 44) go_form o h
    rw [Bool.eq_iff_iff] at e
    simpa using e
  · rw [formS_outC h]
    unfold Is at h
    omega
/-- An operation with a condition: its index, its number of bits. -/
theorem form4_cases {o : Int} (h : formS o = 4) : ∃ c : Int, 0 ≤ c ∧ c ≤ 10 ∧ Int.tmod (wrap64 (o - 45)) 11 = c ∧ ((bitsS o = 64 ∧ o = 45 + c) ∨ (bitsS o = 32 ∧ o = 56 + c)) := by
  obtain ⟨h1, h2⟩ := (form4_iff o).1 h
  have hi : Is o := ⟨by omega, by omega⟩
  have e := in_rangeC (f := fun n => !(decide (45 ≤ n) && decide (n ≤ 66)) || bitsS n == (if n ≤ 55 then 64 else 32)) (g := fun _ => true) cond_bits o hi
  simp [h1, h2] at e
  have hw : wrap64 (o - 45) = o - 45 := by unfold wrap64; omega
  rw [hw, Int.tmod_eq_emod_of_nonneg (by omega)]
  by_cases h5 : o ≤ 55
  · rw [if_pos h5] at e
    exact ⟨o - 45, by omega, by omega, by omega, .inl ⟨e, by omega⟩⟩
  · rw [if_neg h5] at e
    exact ⟨o - 56, by omega, by omega, by omega, .inr ⟨e, by omega⟩⟩

/-! cond.Holds. -/
def opB (r : Bool) (i src : Int) : Int := if r then src else IntKind.u64.wrap i
def cmp3 (a b : Int) (l e g : Bool) : Bool := if a < b then l else if a > b then g else e
theorem cmpU (a b : Int) (l e g : Bool) : cond_compare_uint64.f a b l e g = some (cmp3 a b l e g) := by
  unfold cond_compare_uint64.f cmp_Compare_uint64.f cmp_isNaN_uint64.f cmp3
  simp only [bne_self_eq_false, Option.bind_some, Bool.false_eq_true, if_false]
  split
  · rfl
  · split <;> rfl
theorem cmpI (a b : Int) (l e g : Bool) : cond_compare_int64.f a b l e g = some (cmp3 a b l e g) := by
  unfold cond_compare_int64.f cmp_Compare_int64.f cmp_isNaN_int64.f cmp3
  simp only [bne_self_eq_false, Option.bind_some, Bool.false_eq_true, if_false]
  split
  · rfl
  · split <;> rfl
/-- The condition with the index c for the signed numbers S and T. -/
def condS (c n S T : Int) : Bool :=
  if c = 0 then S == T else if c = 4 then S != T
  else if c = 3 then shl .u64 (Go.bits .and .u64 (IntKind.u64.wrap S) (IntKind.u64.wrap T)) (wrap64 (64 - n)) != 0
  else if c = 1 then cmp3 (IntKind.u64.wrap S) (IntKind.u64.wrap T) false false true
  else if c = 2 then cmp3 (IntKind.u64.wrap S) (IntKind.u64.wrap T) false true true
  else if c = 7 then cmp3 (IntKind.u64.wrap S) (IntKind.u64.wrap T) true false false
  else if c = 8 then cmp3 (IntKind.u64.wrap S) (IntKind.u64.wrap T) true true false
  else if c = 5 then cmp3 S T false false true
  else if c = 6 then cmp3 S T false true true
  else if c = 9 then cmp3 S T true false false
  else cmp3 S T true true false
theorem opB_range {r : Bool} {i src : Int} (h : 0 ≤ src ∧ src ≤ 18446744073709551615) : 0 ≤ opB r i src ∧ opB r i src ≤ 18446744073709551615 := by
  unfold opB
  rw [u64C]
  split <;> omega
theorem holds4 {o : Int} (r : Bool) (d s f i : Int) {A B : Int} (hA : 0 ≤ A ∧ A ≤ 18446744073709551615) (hB : 0 ≤ B ∧ B ≤ 18446744073709551615) {c n : Int} (hf : formS o = 4) (c0 : 0 ≤ c) (c1 : c ≤ 10) (hc : Int.tmod (wrap64 (o - 45)) 11 = c) (hn : bitsS o = n) (hn2 : n = 64 ∨ n = 32) :
    cond_Holds.f o r d s f i A B = some (condS c n (sx n A) (sx n (opB r i B))) := by
  have hop : alu_Operand.f o r d s f i B = some (opB r i B) := by
    unfold alu_Operand.f opB ops_Form.f
    cases r with
    | true => rfl
    | false => simp [hf]
  have hO := opB_range (r := r) (i := i) hB
  have hw : (0 : Int) ≤ wrap64 (64 - n) := by rcases hn2 with rfl | rfl <;> unfold wrap64 <;> omega
  unfold cond_Holds.f ops_Form.f ops_Bits.f condS
  rw [hf, hn, hop]
  simp only [Option.bind_some, ext_sx hn2 A hA.1 hA.2, ext_sx hn2 _ hO.1 hO.2, hc, if_pos hw, cmpU, cmpI, if_neg (show ¬ (4 : Int) = 3 by omega), if_true]
  clear hop hO hw hc hn
  obtain rfl | rfl | rfl | rfl | rfl | rfl | rfl | rfl | rfl | rfl | rfl : c = 0 ∨ c = 1 ∨ c = 2 ∨ c = 3 ∨ c = 4 ∨ c = 5 ∨ c = 6 ∨ c = 7 ∨ c = 8 ∨ c = 9 ∨ c = 10 := by omega
  all_goals simp
theorem holds_other {o : Int} (r : Bool) (d s f i A B : Int) (hf : formS o ≠ 4) : cond_Holds.f o r d s f i A B = some (formS o == 3) := by
  unfold cond_Holds.f ops_Form.f
  simp only [Option.bind_some, if_neg hf]
  split
  · rename_i h; rw [h]; rfl
  · rename_i h; simp [h]
end Go.Proofs.YtnllfppkfdnjpaaDoor.Q
