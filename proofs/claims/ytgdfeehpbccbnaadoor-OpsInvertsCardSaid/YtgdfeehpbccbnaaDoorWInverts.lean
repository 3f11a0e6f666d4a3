/- The walk of OpsInverts. -/
import Derived.Test.YtgdfeehpbccbnaaDoorQx13
import Derived.Test.YtgdfeehpbccbnaaDoorQx4
import Derived.ProofKit
namespace Go.Proofs.YtgdfeehpbccbnaaDoor.L
open Go Go.RowKit Go.Proofs.YtgdfeehpbccbnaaDoor.Ops

theorem inv_all : (List.range 86).map (fun n => (!(codeF (Int.ofNat n) false).2 || decide (identF (codeF (Int.ofNat n) false).1 (srcS (Int.ofNat n)) (offS (Int.ofNat n)) (immS (Int.ofNat n)) = (Int.ofNat n, false, true)))
    && (!(codeF (Int.ofNat n) true).2 || decide (identF (codeF (Int.ofNat n) true).1 (srcS (Int.ofNat n)) (offS (Int.ofNat n)) (immS (Int.ofNat n)) = (Int.ofNat n, true, true)))) = (List.range 86).map (fun _ => true) := by kernel_rfl
theorem valid_all : (List.range 86).map (fun n => Q.slotcoderef02_Valid.f 40 (nameS (Int.ofNat n))) = (List.range 86).map (fun _ => some true) := by kernel_rfl
theorem alive_f : Q.slotcodelaw03_alive.f = some true := by kernel_rfl

theorem inv_at (k : Nat) (hk : k < 86) (reg : Bool) (h : (codeF k reg).2 = true) : identF (codeF k reg).1 (srcS k) (offS k) (immS k) = ((k : Int), reg, true) := by
  have a := of_range inv_all k hk
  rw [Bool.and_eq_true] at a
  cases reg
  · have a := a.1
    rw [Bool.or_eq_true] at a
    rcases a with a | a
    · rw [show Int.ofNat k = (k : Int) from rfl, h] at a
      cases a
    · exact of_decide_eq_true a
  · have a := a.2
    rw [Bool.or_eq_true] at a
    rcases a with a | a
    · rw [show Int.ofNat k = (k : Int) from rfl, h] at a
      cases a
    · exact of_decide_eq_true a
theorem nameS_nat {k : Nat} (hk : k < 86) : nameS (k : Int) = opName k := by
  have hi : Is (k : Int) := ⟨by omega, by omega⟩
  simp [nameS, opName, rowS, hi]
theorem name_cmp (k j : Nat) (hk : k < 86) (hj : j < 86) : ((nameS k).toList == (nameS j).toList) = ((k : Int) == (j : Int)) := by
  rw [nameS_nat hk, nameS_nat hj]
  by_cases e : k = j
  · subst e
    simp
  · have h1 : ¬ (k : Int) = (j : Int) := by omega
    have h2 : ¬ (opName k).toList = (opName j).toList := fun h => e (opName_inj hk hj (by rw [ByteArray.toList_eq, ByteArray.toList_eq] at h; exact keyL_inj (by unfold keyL; rw [h])))
    rw [beq_eq_false_iff_ne.2 h1, beq_eq_false_iff_ne.2 h2]

theorem mod86 (n : Int) (hn : (Lit.int .u8 n).wf = true) : ∃ k : Nat, k < 86 ∧ Int.tmod (wrap64 n) 86 = (k : Int) := by
  have h : 0 ≤ n ∧ n ≤ 255 := by
    simp [Lit.wf, IntKind.min, IntKind.max, IntKind.signed, IntKind.bits] at hn
    omega
  refine ⟨(n % 86).toNat, by omega, ?_⟩
  have : wrap64 n = n := by unfold wrap64; omega
  rw [this, Int.tmod_eq_emod_of_nonneg h.1]
  omega

set_option maxRecDepth 100000 in
set_option maxHeartbeats 1000000 in
theorem opsInverts_walk (n : Int) (hn : (Lit.int .u8 n).wf = true) (m : Int) (hm : (Lit.int .u8 m).wf = true) (reg : Bool) (w : World) (hG : G w) :
    Calls Tryd.prog 8 #[.int .u8 n, .int .u8 m, .bool reg] w fun e w' => e = .returned (.bool true) ∧ Below w.heap.size w w' := by
  obtain ⟨k, hk, ek⟩ := mod86 n hn
  obtain ⟨j, hj, ej⟩ := mod86 m hm
  go_enter Tryd.func8, Tryd.ntmps8
  go_wp2_with fail
  refine (code_any k reg _ hG).mono ?_
  rintro e w1 ⟨rfl, hb⟩
  have hg := hG.below' hb
  go_wp2_with fail
  refine (fixed_any k _ hg).mono ?_
  rintro e w2 ⟨rfl, hb2⟩
  have hb := hb.trans (hb2.mono hb.size)
  have hg := hG.below' hb
  go_wp2_with fail
  refine (ident_any (codeF k reg).1 (srcS k) (offS k) (immS k) _ hg).mono ?_
  rintro e w3 ⟨rfl, hb3⟩
  have hb := hb.trans (hb3.mono hb.size)
  have hg := hG.below' hb
  go_wp2_with fail
  refine (name_any k _ hg).mono ?_
  rintro e w4 ⟨rfl, hb4⟩
  have hb := hb.trans (hb4.mono hb.size)
  have hg := hG.below' hb
  have hsz : (nameS k).size ≤ maxLen := by rw [nameS_nat hk]; exact name_size k hk
  have hfind : findF (nameS k) = ((k : Int), true) := by rw [nameS_nat hk]; exact find_some hk rfl
  go_wp2_with fail
  refine (find_any (nameS k) hsz _).mono ?_
  rintro e w5 ⟨rfl, hb5⟩
  rw [hfind]
  have hb := hb.trans (hb5.mono hb.size)
  have hg := hG.below' hb
  have hinv : (codeF k reg).2 = true → identF (codeF k reg).1 (srcS k) (offS k) (immS k) = ((k : Int), reg, true) := inv_at k hk reg
  have fin : ∀ w6, Below w.heap.size w w6 → Calls Tryd.prog 15 #[] w6 fun e w' => e = .returned (.bool true) ∧ Below w6.heap.size w6 w' :=
    fun w6 hb => Q.slotcodelaw03_alive.calls true w6 alive_f (hG.below' hb)
  have vld : ∀ w6, Calls Tryd.prog 29 #[.string (nameS k)] w6 fun e w' => e = .returned (.bool true) ∧ Below w6.heap.size w6 w' :=
    fun w6 => Q.slotcoderef02_Valid.calls 40 (nameS k) true w6 (of_range valid_all k hk)
  have hcmp : ((nameS k).toList == (nameS j).toList) = ((k : Int) == (j : Int)) := name_cmp k j hk hj
  clear ek ej hfind hsz hb2 hb3 hb4 hb5
  cases hok : (codeF k reg).2 with
  | false =>
    clear hinv
    go_wp2_with fail
    refine (fin _ hb).mono ?_
    rintro e w6 ⟨rfl, hb6⟩
    have hb := hb.trans (hb6.mono hb.size)
    have hg := hG.below' hb
    clear hb6
    go_wp2_with fail
    refine (name_any k _ hg).mono ?_
    rintro e w7 ⟨rfl, hb7⟩
    have hb := hb.trans (hb7.mono hb.size)
    have hg := hG.below' hb
    clear hb7
    go_wp2_with fail
    refine (vld _).mono ?_
    rintro e w8 ⟨rfl, hb8⟩
    have hb := hb.trans (hb8.mono hb.size)
    have hg := hG.below' hb
    clear hb8
    go_wp2_with fail
    refine (name_any k _ hg).mono ?_
    rintro e w9 ⟨rfl, hb9⟩
    have hb := hb.trans (hb9.mono hb.size)
    have hg := hG.below' hb
    clear hb9
    go_wp2_with fail
    refine (name_any j _ hg).mono ?_
    rintro e w10 ⟨rfl, hb10⟩
    have hb := hb.trans (hb10.mono hb.size)
    go_wp2_with fail
    go_ret
    exact ⟨by first | rfl | (simp [hcmp]), hb⟩
  | true =>
    rw [hinv hok]
    clear hinv
    go_wp2_with fail
    refine (fin _ hb).mono ?_
    rintro e w6 ⟨rfl, hb6⟩
    have hb := hb.trans (hb6.mono hb.size)
    have hg := hG.below' hb
    clear hb6
    go_wp2_with fail
    refine (name_any k _ hg).mono ?_
    rintro e w7 ⟨rfl, hb7⟩
    have hb := hb.trans (hb7.mono hb.size)
    have hg := hG.below' hb
    clear hb7
    go_wp2_with fail
    refine (vld _).mono ?_
    rintro e w8 ⟨rfl, hb8⟩
    have hb := hb.trans (hb8.mono hb.size)
    have hg := hG.below' hb
    clear hb8
    go_wp2_with fail
    refine (name_any k _ hg).mono ?_
    rintro e w9 ⟨rfl, hb9⟩
    have hb := hb.trans (hb9.mono hb.size)
    have hg := hG.below' hb
    clear hb9
    go_wp2_with fail
    refine (name_any j _ hg).mono ?_
    rintro e w10 ⟨rfl, hb10⟩
    have hb := hb.trans (hb10.mono hb.size)
    go_wp2_with fail
    go_ret
    exact ⟨by first | rfl | (simp [hcmp]), hb⟩
end Go.Proofs.YtgdfeehpbccbnaaDoor.L
