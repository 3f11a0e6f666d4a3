/- The walk of OpsFinds. -/
import Derived.Test.YtgdfeehpbccbnaaDoorAlive
namespace Go.Proofs.YtgdfeehpbccbnaaDoor.L
open Go Go.RowKit Go.Proofs.YtgdfeehpbccbnaaDoor.Ops

theorem bytes_eq {a b : ByteArray} (h : a.toList = b.toList) : a = b := by
  rw [ByteArray.toList_eq, ByteArray.toList_eq] at h
  obtain ⟨⟨x⟩⟩ := a
  obtain ⟨⟨y⟩⟩ := b
  simp only at h
  rw [h]
def lastTo (s : ByteArray) : Nat → Int × Bool
  | 0 => (0, false)
  | k + 1 => if nameS k = s then ((k : Int), true) else lastTo s k
theorem nameS_nat {n : Nat} (h : n < 86) : nameS (n : Int) = opName n := by
  have hi : Is (n : Int) := ⟨by omega, by omega⟩
  simp [nameS, opName, rowS, hi]
theorem lastTo_eq (s : ByteArray) : lastTo s 86 = findF s := by
  by_cases h : ∃ n, n < 86 ∧ opName n = s
  · obtain ⟨n, hn, rfl⟩ := h
    rw [find_some hn rfl]
    have key : ∀ k, k ≤ 86 → n < k → lastTo (opName n) k = ((n : Int), true) := by
      intro k
      induction k with
      | zero => intro _ h; omega
      | succ k ih =>
        intro hk hlt
        unfold lastTo
        by_cases e : n = k
        · subst e
          rw [if_pos (nameS_nat hn)]
        · rw [if_neg (fun he => e (opName_inj hn (by omega) (he.symm.trans (nameS_nat (by omega)))))]
          exact ih (by omega) (by omega)
    exact key 86 (Nat.le_refl _) hn
  · have hn : ∀ n, n < 86 → opName n ≠ s := fun n hn he => h ⟨n, hn, he⟩
    rw [find_none hn]
    have key : ∀ k, k ≤ 86 → lastTo s k = (0, false) := by
      intro k
      induction k with
      | zero => intro _; rfl
      | succ k ih =>
        intro hk
        unfold lastTo
        rw [if_neg (fun he => hn k (by omega) ((nameS_nat (by omega)).symm.trans he))]
        exact ih (by omega)
    exact key 86 (Nat.le_refl _)

set_option maxRecDepth 100000 in
set_option maxHeartbeats 1000000 in
theorem opsFinds_walk (s : ByteArray) (hs : s.size ≤ 140737488351232) (w : World) (hG : G w) : Calls Tryd.prog 4 #[.string s] w fun e w' => e = .returned (.bool true) ∧ Below w.heap.size w w' := by
  go_enter Tryd.func4, Tryd.ntmps4
  go_wp2_with fail
  refine (find_any s (by unfold maxLen; omega) _).mono ?_
  rintro e w1 ⟨rfl, hb⟩
  go_wp2_with fail
  go_loopw [5, 6, 13] (fun x y i wr => ∃ k : Nat, k ≤ 86 ∧ i = .int .i64 k ∧ x = .int .i64 (lastTo s k).1 ∧ y = .bool (lastTo s k).2 ∧ Below w.heap.size w wr)
    (fun _ _ i _ => 86 - (intOf i).toNat)
  case atStart => exact ⟨0, Nat.zero_le _, rfl, rfl, rfl, hb⟩
  case round =>
    obtain ⟨k, hk, rfl, rfl, rfl, hnx⟩ := hrel
    by_cases hlt : k < 86
    · go_wp2_with fail
      refine (rname_any (k : Int) _).mono ?_
      rintro e w2 ⟨rfl, hb2⟩
      have hn2 := hnx.trans (hb2.mono hnx.size)
      have hst : lastTo s (k + 1) = if nameS k = s then ((k : Int), true) else lastTo s k := rfl
      have HST := Lib.hid hst
      clear hst
      by_cases he : nameS (k : Int) = s
      · have hq : ((nameS (k : Int)).toList == s.toList) = true := by rw [he]; simp
        have HE := Lib.hid he
        clear he
        go_wp2_with fail
        go_roundw
        case rel => exact ⟨k + 1, by omega, by go_num, by rw [HST.out, if_pos HE.out], by rw [HST.out, if_pos HE.out], hn2⟩
        case measure => simp [intOf]; omega
      · have hq : ((nameS (k : Int)).toList == s.toList) = false := by
          rw [beq_eq_false_iff_ne]
          exact fun hc => he (bytes_eq hc)
        have HE := Lib.hid he
        clear he
        go_wp2_with fail
        go_roundw
        case rel => exact ⟨k + 1, by omega, by go_num, by rw [HST.out, if_neg HE.out], by rw [HST.out, if_neg HE.out], hn2⟩
        case measure => simp [intOf]; omega
    · have : k = 86 := by omega
      subst this
      rw [lastTo_eq]
      have hg := hG.below' hnx
      go_wp2_with fail
      refine (alive_any _ hg).mono ?_
      rintro e w3 ⟨rfl, hb3⟩
      have hn3 := hnx.trans (hb3.mono hnx.size)
      go_wp2_with fail
      go_ret
      exact ⟨rfl, hn3⟩
end Go.Proofs.YtgdfeehpbccbnaaDoor.L
