/- The law CondOrder: what the printed function says is always true; its walk. -/
import Derived.Test.YtnllfppkfdnjpaaDoorPCond3
import Derived.Test.YtnllfppkfdnjpaaDoorIx5p
import Derived.OpenShut
namespace Go.Proofs.YtnllfppkfdnjpaaDoor.Q
open Go Go.RowKit Go.Proofs.YtnllfppkfdnjpaaDoor.Ops Go.Proofs.YtnllfppkfdnjpaaDoorW.PrintWords

theorem l0_step (k : Nat) (A B b n m : Int) (L : List Int) (i i' o : Int) (v : Bool) (h0 : 0 ≤ i) (h1 : i < (L.length : Int)) (hi : wrap64 (i + 1) = i') (ho : wrap64 (b + rd L i) = o) (hv : cond_Holds.f o true 0 0 0 0 A B = some v) :
    slotcodelaw07_CondOrder.l0 (k + 1) A B b n m L (L.length : Int) i = slotcodelaw07_CondOrder.l0 k A B b (if v then wrap64 (n + 1) else n) m L (L.length : Int) i' := by
  rw [slotcodelaw07_CondOrder.l0, if_pos h1, if_pos h0, if_pos h1, ho, hv, hi]
  cases v <;> rfl
theorem l0_end (k : Nat) (A B b n m : Int) (L : List Int) (i : Int) (h1 : ¬ i < (L.length : Int)) : slotcodelaw07_CondOrder.l0 (k + 1) A B b n m L (L.length : Int) i = slotcodelaw07_CondOrder.l1 k A B b n m [0, 5, 9] (([0, 5, 9] : List Int).length : Int) 0 := by
  rw [slotcodelaw07_CondOrder.l0, if_neg h1]
  rfl
theorem l1_step (k : Nat) (A B b n m : Int) (L : List Int) (i i' o : Int) (v : Bool) (h0 : 0 ≤ i) (h1 : i < (L.length : Int)) (hi : wrap64 (i + 1) = i') (ho : wrap64 (b + rd L i) = o) (hv : cond_Holds.f o true 0 0 0 0 A B = some v) :
    slotcodelaw07_CondOrder.l1 (k + 1) A B b n m L (L.length : Int) i = slotcodelaw07_CondOrder.l1 k A B b n (if v then wrap64 (m + 1) else m) L (L.length : Int) i' := by
  rw [slotcodelaw07_CondOrder.l1, if_pos h1, if_pos h0, if_pos h1, ho, hv, hi]
  cases v <;> rfl
theorem l1_end (k : Nat) (A B b n m : Int) (L : List Int) (i : Int) (h1 : ¬ i < (L.length : Int)) : slotcodelaw07_CondOrder.l1 (k + 1) A B b n m L (L.length : Int) i = if n = 1 then some (m == 1) else some false := by
  rw [slotcodelaw07_CondOrder.l1, if_neg h1]
  rfl
theorem order_eval (b A B : Int) (hb : b = 45 ∨ b = 56) {x0 x1 x7 x5 x9 : Bool} (h0 : cond_Holds.f b true 0 0 0 0 A B = some x0) (h1 : cond_Holds.f (b + 1) true 0 0 0 0 A B = some x1) (h7 : cond_Holds.f (b + 7) true 0 0 0 0 A B = some x7)
    (h5 : cond_Holds.f (b + 5) true 0 0 0 0 A B = some x5) (h9 : cond_Holds.f (b + 9) true 0 0 0 0 A B = some x9)
    (h : (x0 = true ∧ x1 = false ∧ x7 = false ∧ x5 = false ∧ x9 = false) ∨ (x0 = false ∧ (x1 = true ∧ x7 = false ∨ x1 = false ∧ x7 = true) ∧ (x5 = true ∧ x9 = false ∨ x5 = false ∧ x9 = true))) : slotcodelaw07_CondOrder.j0 20 A B b = some true := by
  have w0 : wrap64 (b + rd [0, 1, 7] 0) = b := by rcases hb with rfl | rfl <;> kernel_rfl
  have w1 : wrap64 (b + rd [0, 1, 7] 1) = b + 1 := by rcases hb with rfl | rfl <;> kernel_rfl
  have w2 : wrap64 (b + rd [0, 1, 7] 2) = b + 7 := by rcases hb with rfl | rfl <;> kernel_rfl
  have v0 : wrap64 (b + rd [0, 5, 9] 0) = b := by rcases hb with rfl | rfl <;> kernel_rfl
  have v1 : wrap64 (b + rd [0, 5, 9] 1) = b + 5 := by rcases hb with rfl | rfl <;> kernel_rfl
  have v2 : wrap64 (b + rd [0, 5, 9] 2) = b + 9 := by rcases hb with rfl | rfl <;> kernel_rfl
  have i0 : wrap64 (0 + 1) = 1 := by kernel_rfl
  have i1 : wrap64 (1 + 1) = 2 := by kernel_rfl
  have i2 : wrap64 (2 + 1) = 3 := by kernel_rfl
  have e : slotcodelaw07_CondOrder.j0 20 A B b = slotcodelaw07_CondOrder.l0 19 A B b 0 0 [0, 1, 7] (([0, 1, 7] : List Int).length : Int) 0 := rfl
  rw [e, l0_step 18 A B b 0 0 [0, 1, 7] 0 1 b x0 (by simp) (by simp) i0 w0 h0, l0_step 17 A B b _ 0 [0, 1, 7] 1 2 (b + 1) x1 (by simp) (by simp) i1 w1 h1, l0_step 16 A B b _ 0 [0, 1, 7] 2 3 (b + 7) x7 (by simp) (by simp) i2 w2 h7, l0_end 15 A B b _ 0 [0, 1, 7] 3 (by simp),
    l1_step 14 A B b _ 0 [0, 5, 9] 0 1 b x0 (by simp) (by simp) i0 v0 h0, l1_step 13 A B b _ _ [0, 5, 9] 1 2 (b + 5) x5 (by simp) (by simp) i1 v1 h5, l1_step 12 A B b _ _ [0, 5, 9] 2 3 (b + 9) x9 (by simp) (by simp) i2 v2 h9, l1_end 11 A B b _ _ [0, 5, 9] 3 (by simp)]
  rcases h with ⟨rfl, rfl, rfl, rfl, rfl⟩ | ⟨rfl, ⟨rfl, rfl⟩ | ⟨rfl, rfl⟩, ⟨rfl, rfl⟩ | ⟨rfl, rfl⟩⟩ <;> simp [show wrap64 1 = 1 from i0]
theorem condOrder_true (A B : Int) (wide : Bool) (hA : 0 ≤ A ∧ A ≤ 18446744073709551615) (hB : 0 ≤ B ∧ B ≤ 18446744073709551615) : slotcodelaw07_CondOrder.f 20 A B wide = some true := by
  have key : ∀ b n : Int, (b = 45 ∧ n = 64 ∨ b = 56 ∧ n = 32) → slotcodelaw07_CondOrder.j0 20 A B b = some true := by
    intro b n hb
    have hn2 : n = 64 ∨ n = 32 := by omega
    have hh : ∀ c : Int, 0 ≤ c → c ≤ 10 → cond_Holds.f (b + c) true 0 0 0 0 A B = some (condS c n (sx n A) (sx n B)) := by
      intro c c0 c1
      obtain ⟨hf, hc, hn, _⟩ := form4_mk (o := b + c) (c := c) (n := n) (by omega) c0 c1
      exact holds4 true 0 0 0 0 hA hB hf c0 c1 hc hn hn2
    have h0 := hh 0 (by omega) (by omega)
    rw [Int.add_zero] at h0
    exact order_eval b A B (by omega) h0 (hh 1 (by omega) (by omega)) (hh 7 (by omega) (by omega)) (hh 5 (by omega) (by omega)) (hh 9 (by omega) (by omega)) (three (sx_range hn2) (sx_range hn2))
  unfold slotcodelaw07_CondOrder.f
  cases wide with
  | true => exact key 45 64 (by omega)
  | false => exact key 56 32 (by omega)

end Go.Proofs.YtnllfppkfdnjpaaDoor.Q
namespace Go.Proofs.YtnllfppkfdnjpaaDoor.L
open Go Go.RowKit Go.Proofs.YtnllfppkfdnjpaaDoor.Ops Go.Proofs.YtnllfppkfdnjpaaDoor.Q Go.Proofs.YtnllfppkfdnjpaaDoorW.PrintWords

theorem condOrder_walk (a : Int) (ha : (Lit.int .u64 a).wf = true) (b : Int) (hb : (Lit.int .u64 b).wf = true) (c : Bool) (w : World) (hG : GG w) :
    Calls Tryd.prog 13 #[.int .u64 a, .int .u64 b, .bool c] w fun e w' => e = .returned (.bool true) ∧ Below w.heap.size w w' :=
  slotcodelaw07_CondOrder.calls 20 a b c true w (condOrder_true a b c (bounds_u64 ha) (bounds_u64 hb)) hG
end Go.Proofs.YtnllfppkfdnjpaaDoor.L
