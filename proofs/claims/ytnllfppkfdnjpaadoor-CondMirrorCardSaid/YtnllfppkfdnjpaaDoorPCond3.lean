/- What the laws of chapter 7 need of the conditions. -/
import Derived.Test.YtnllfppkfdnjpaaDoorPCond2
namespace Go.Proofs.YtnllfppkfdnjpaaDoor.Q
open Go Go.RowKit Go.Proofs.YtnllfppkfdnjpaaDoor.Ops Go.Proofs.YtnllfppkfdnjpaaDoorW.PrintWords

theorem form4_mk {o c n : Int} (h : (o = 45 + c ∧ n = 64) ∨ (o = 56 + c ∧ n = 32)) (c0 : 0 ≤ c) (c1 : c ≤ 10) : formS o = 4 ∧ Int.tmod (wrap64 (o - 45)) 11 = c ∧ bitsS o = n ∧ (n = 64 ∨ n = 32) := by
  have hf : formS o = 4 := (form4_iff o).2 (by omega)
  obtain ⟨c', k0, k1, hc, hb⟩ := form4_cases hf
  refine ⟨hf, by omega, by omega, by omega⟩
theorem pair_ok {l : List Int} {o : Int} (h : (pairF l o).2 = true) : ∃ c j n : Int, 0 ≤ c ∧ c ≤ 10 ∧ ((o = 45 + c ∧ n = 64) ∨ (o = 56 + c ∧ n = 32)) ∧ mate l c = some j ∧ (pairF l o).1 = wrap64 (wrap64 (o - c) + j) := by
  unfold pairF at h ⊢
  by_cases hf : formS o = 4
  · obtain ⟨c, c0, c1, hc, hb⟩ := form4_cases hf
    rw [if_pos hf, hc] at h ⊢
    cases hm : mate l c with
    | none => rw [hm] at h; cases h
    | some j => exact ⟨c, j, bitsS o, c0, c1, by omega, hm, rfl⟩
  · rw [if_neg hf] at h
    cases h
theorem opp_le (a b : Int) : (cmp3 a b true true false != cmp3 a b false false true) = true := by
  unfold cmp3; split
  · rfl
  · split <;> rfl
theorem opp_lt (a b : Int) : (cmp3 a b true false false != cmp3 a b false true true) = true := by
  unfold cmp3; split
  · rfl
  · split <;> rfl
theorem opp_gt (a b : Int) : (cmp3 a b false false true != cmp3 a b true true false) = true := by
  unfold cmp3; split
  · rfl
  · split <;> rfl
theorem opp_ge (a b : Int) : (cmp3 a b false true true != cmp3 a b true false false) = true := by
  unfold cmp3; split
  · rfl
  · split <;> rfl
theorem opp_cond (c j : Int) (c0 : 0 ≤ c) (c1 : c ≤ 10) (h : mate oppL c = some j) (n S T : Int) : (0 ≤ j ∧ j ≤ 10) ∧ (condS j n S T != condS c n S T) = true := by
  obtain rfl | rfl | rfl | rfl | rfl | rfl | rfl | rfl | rfl | rfl | rfl : c = 0 ∨ c = 1 ∨ c = 2 ∨ c = 3 ∨ c = 4 ∨ c = 5 ∨ c = 6 ∨ c = 7 ∨ c = 8 ∨ c = 9 ∨ c = 10 := by omega
  all_goals (simp [mate, oppL] at h)
  all_goals (subst h; refine ⟨by omega, ?_⟩)
  · unfold condS; cases he : S == T <;> simp_all [bne]
  · exact opp_le _ _
  · exact opp_lt _ _
  · unfold condS; cases he : S == T <;> simp_all [bne]
  · exact opp_le _ _
  · exact opp_lt _ _
  · exact opp_ge _ _
  · exact opp_gt _ _
  · exact opp_ge _ _
  · exact opp_gt _ _
theorem mir3 (a b : Int) (l e g : Bool) : cmp3 b a l e g = cmp3 a b g e l := by
  unfold cmp3
  by_cases h1 : a < b
  · rw [if_neg (by omega), if_pos (by omega), if_pos h1]
  · by_cases h2 : b < a
    · rw [if_pos h2, if_neg h1, if_pos (by omega)]
    · rw [if_neg h2, if_neg (by omega), if_neg h1, if_neg (by omega)]
theorem and_comm64 (a b : Int) : Go.bits .and .u64 a b = Go.bits .and .u64 b a := by simp only [Go.bits, BitVec.and_comm]
theorem mir_cond (c j : Int) (c0 : 0 ≤ c) (c1 : c ≤ 10) (h : mate mirL c = some j) (n S T : Int) : (0 ≤ j ∧ j ≤ 10) ∧ condS j n T S = condS c n S T := by
  obtain rfl | rfl | rfl | rfl | rfl | rfl | rfl | rfl | rfl | rfl | rfl : c = 0 ∨ c = 1 ∨ c = 2 ∨ c = 3 ∨ c = 4 ∨ c = 5 ∨ c = 6 ∨ c = 7 ∨ c = 8 ∨ c = 9 ∨ c = 10 := by omega
  all_goals (simp [mate, mirL] at h)
  all_goals (subst h; refine ⟨by omega, ?_⟩)
  · unfold condS; rw [if_pos rfl, if_pos rfl, Bool.eq_iff_iff]; simp; omega
  · exact mir3 _ _ _ _ _
  · exact mir3 _ _ _ _ _
  · unfold condS; rw [and_comm64]; rfl
  · unfold condS; rw [if_neg (by omega), if_pos rfl, if_neg (by omega), if_pos rfl, Bool.eq_iff_iff]; simp; omega
  · exact mir3 _ _ _ _ _
  · exact mir3 _ _ _ _ _
  · exact mir3 _ _ _ _ _
  · exact mir3 _ _ _ _ _
  · exact mir3 _ _ _ _ _
  · exact mir3 _ _ _ _ _
/-! One of three. -/
theorem sx_range {n A : Int} (hn : n = 64 ∨ n = 32) : -9223372036854775808 ≤ sx n A ∧ sx n A ≤ 9223372036854775807 := by
  rcases hn with rfl | rfl
  · rw [sx_64]; unfold wrap64; omega
  · rw [sx_32]; split <;> omega
theorem three {n S T : Int} (hS : -9223372036854775808 ≤ S ∧ S ≤ 9223372036854775807) (hT : -9223372036854775808 ≤ T ∧ T ≤ 9223372036854775807) :
    (condS 0 n S T = true ∧ condS 1 n S T = false ∧ condS 7 n S T = false ∧ condS 5 n S T = false ∧ condS 9 n S T = false) ∨
    (condS 0 n S T = false ∧ (condS 1 n S T = true ∧ condS 7 n S T = false ∨ condS 1 n S T = false ∧ condS 7 n S T = true) ∧ (condS 5 n S T = true ∧ condS 9 n S T = false ∨ condS 5 n S T = false ∧ condS 9 n S T = true)) := by
  have e0 : condS 0 n S T = (S == T) := rfl
  have e1 : condS 1 n S T = cmp3 (IntKind.u64.wrap S) (IntKind.u64.wrap T) false false true := rfl
  have e7 : condS 7 n S T = cmp3 (IntKind.u64.wrap S) (IntKind.u64.wrap T) true false false := rfl
  have e5 : condS 5 n S T = cmp3 S T false false true := rfl
  have e9 : condS 9 n S T = cmp3 S T true false false := rfl
  rw [e0, e1, e7, e5, e9, cmp_g, cmp_l, cmp_g, cmp_l, u64C, u64C]
  simp only [beq_iff_eq, beq_eq_false_iff_ne, decide_eq_true_eq, decide_eq_false_iff_not, ne_eq]
  omega
theorem sx_low {A a : Int} : sx 32 (IntKind.u64.wrap (Int.tmod A 4294967296 + IntKind.u64.wrap (IntKind.u64.wrap a * 4294967296))) = sx 32 (Int.tmod A 4294967296) := by
  rw [sx_32, sx_32, u64C, u64C, u64C]
  have e : (Int.tmod A 4294967296 + a % 18446744073709551616 * 4294967296 % 18446744073709551616) % 18446744073709551616 % 4294967296 = Int.tmod A 4294967296 % 4294967296 := by omega
  rw [e]
theorem sx_tmod {A : Int} (h : 0 ≤ A) : sx 32 (Int.tmod A 4294967296) = sx 32 A := by
  rw [Int.tmod_eq_emod_of_nonneg h, sx_32, sx_32]
  have e : A % 4294967296 % 4294967296 = A % 4294967296 := by omega
  rw [e]
theorem u64_in (x : Int) : 0 ≤ IntKind.u64.wrap x ∧ IntKind.u64.wrap x ≤ 18446744073709551615 := by rw [u64C]; omega
end Go.Proofs.YtnllfppkfdnjpaaDoor.Q
