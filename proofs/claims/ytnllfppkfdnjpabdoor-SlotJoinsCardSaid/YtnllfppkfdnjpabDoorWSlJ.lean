/- The law SlotJoins: its function returns true; the walk. -/
import Derived.Test.YtnllfppkfdnjpabDoorPSl6
import Derived.Test.YtnllfppkfdnjpabDoorKx20
import Derived.OpenShut
namespace Go.Proofs.YtnllfppkfdnjpabDoor.Q
open Go Go.RowKit Go.Proofs.YtnllfppkfdnjpabDoor.Ops Go.Proofs.YtnllfppkfdnjpabDoorW.PrintWords

theorem rchk_f (o : Int) (r : Bool) (d s f i : Int) (f1 : -9223372036854775808 ≤ f) (f2 : f ≤ 9223372036854775807) (i1 : -9223372036854775808 ≤ i) (i2 : i ≤ 9223372036854775807) : slotcoderef04_Check.f o r d s f i = some (checkF o r d s f i) := by
  unfold slotcoderef04_Check.f
  rw [check_eq _ _ _ _ _ _ f1 f2 i1 i2]
theorem joins_go : ∀ (r : List S23) (k : Nat) (l : List S23) (x3 : List Int) (x4 x5 : Int) (i : Nat), l.drop i = r → (∀ x ∈ l, Fit x) → (∀ x ∈ l.take i, chkX x = 0) → (x3, x4, x5) = jn r i ((l.take i).flatMap encX) → l.length ≤ 300 → 5500 + r.length ≤ k →
    slotcodelaw05_SlotJoins.l0 k l x3 x4 x5 l (l.length : Int) i = some true
  | [], k, l, x3, x4, x5, i, h, hf, hg, hj, hl, hk => by
    obtain ⟨k, rfl⟩ : ∃ m, k = m + 1 := ⟨k - 1, by omega⟩
    have hn := drop_nil h
    rw [List.take_of_length_le hn] at hg hj
    have hj : (x3, x4, x5) = (l.flatMap encX, 0, 0) := hj
    simp only [Prod.mk.injEq] at hj
    obtain ⟨rfl, rfl, rfl⟩ := hj
    have hall : ∀ x ∈ l, Fit x ∧ chkX x = 0 := fun x hx => ⟨hf x hx, hg x hx⟩
    have hlen := flat_length l hg
    have hB := bytes_flat l hg
    have h1 := all_f k (l.flatMap encX) hB (by omega) (by omega)
    rw [allB_enc l hall] at h1
    rw [slotcodelaw05_SlotJoins.l0, if_neg (by omega)]
    refine bindE h1 ?_
    refine bindE (a := true) rfl ?_
    refine (if_pos rfl).trans ?_
    refine bindE (rjoin_f k l hall (by omega) (by omega)) ?_
    refine bindE (same_byte k _ (by omega) (by omega)) ?_
    refine (if_pos rfl).trans ?_
    refine (if_pos rfl).trans ?_
    refine (if_pos rfl).trans ?_
    refine bindE (same_ins k l (by omega) (by omega)) ?_
    rfl
  | x :: r, k, l, x3, x4, x5, i, h, hf, hg, hj, hl, hk => by
    obtain ⟨k, rfl⟩ : ∃ m, k = m + 1 := ⟨k - 1, by omega⟩
    obtain ⟨h1, h2, h3⟩ := rd_drop h
    simp only [List.length_cons] at hk
    have hx : Fit x := by
      refine hf x ?_
      have : x ∈ l.drop i := by rw [h]; simp
      exact List.mem_of_mem_drop this
    have ht : l.take (i + 1) = l.take i ++ [x] := by
      have e : l[i] = x := by
        rw [List.drop_eq_getElem_cons h3] at h
        exact (List.cons.inj h).1
      rw [List.take_succ_eq_append_getElem h3, e]
    rw [slotcodelaw05_SlotJoins.l0, if_pos (by omega), if_pos (by omega), if_pos (by omega), h1]
    refine bindE (rchk_f x.f0 x.f1 x.f2 x.f3 x.f4 x.f5 hx.1 hx.2.1 hx.2.2.1 hx.2.2.2) ?_
    by_cases hc : checkF x.f0 x.f1 x.f2 x.f3 x.f4 x.f5 = 0
    · refine (if_pos hc).trans ?_
      rw [wrapN i (by omega)]
      refine joins_go r k l x3 x4 x5 (i + 1) h2 hf ?_ ?_ hl (by omega)
      · rw [ht]
        intro y hy
        rcases List.mem_append.1 hy with hy | hy
        · exact hg y hy
        · obtain rfl := List.mem_singleton.1 hy
          exact hc
      · rw [jn, if_pos (show chkX x = 0 from hc)] at hj
        rw [hj, ht, List.flatMap_append]
        simp only [List.flatMap_cons, List.flatMap_nil, List.append_nil]
        rfl
    · rw [jn, if_neg (show ¬ chkX x = 0 from hc)] at hj
      simp only [Prod.mk.injEq] at hj
      obtain ⟨rfl, rfl, rfl⟩ := hj
      refine (if_neg hc).trans ?_
      refine bindE (a := true) rfl ?_
      refine (if_pos rfl).trans ?_
      refine (if_pos rfl).trans ?_
      refine (if_pos rfl).trans ?_
      show some (chkX x == chkX x) = _
      simp
theorem slotJoins_true (l : List S23) (hf : ∀ x ∈ l, Fit x) : slotcodelaw05_SlotJoins.f 6000 l = some true := by
  unfold slotcodelaw05_SlotJoins.f
  by_cases hl : (l.length : Int) > 300
  · refine (if_pos hl).trans ?_
    rfl
  · refine (if_neg hl).trans ?_
    refine bindE (join_f 6000 l hf (by omega) (by omega)) ?_
    exact joins_go l 6000 l _ _ _ 0 rfl hf (fun x hx => by simp at hx) (by simp) (by omega) (by omega)
end Go.Proofs.YtnllfppkfdnjpabDoor.Q
namespace Go.Proofs.YtnllfppkfdnjpabDoor.L
open Go Go.RowKit Go.Proofs.YtnllfppkfdnjpabDoor.Ops Go.Proofs.YtnllfppkfdnjpabDoor.Q Go.Proofs.YtnllfppkfdnjpabDoorW.PrintWords

def InsQ (x : S23) : Prop := (Lit.int .i64 x.f0).wf = true ∧ (True ∧ ((Lit.int .i64 x.f2).wf = true ∧ ((Lit.int .i64 x.f3).wf = true ∧ ((Lit.int .i64 x.f4).wf = true ∧ ((Lit.int .i64 x.f5).wf = true)))))
theorem fit_of {x : S23} (q : InsQ x) : Fit x := by
  have a := bounds_i64 q.2.2.2.2.1
  have b := bounds_i64 q.2.2.2.2.2
  exact ⟨by omega, by omega, by omega, by omega⟩
theorem slotJoins_walk (w : World) (hG : GG w) (A : Option Addr) (c : Nat) (l : List S23) (hc : l.length ≤ c) (hr : Kd.C k23 w A l.length l) (q : ∀ y ∈ l, InsQ y) :
    Calls Tryd.prog 14 #[.slice A l.length c] w fun e w' => e = .returned (.bool true) ∧ Below w.heap.size w w' :=
  slotcodelaw05_SlotJoins.calls 6000 A c l true w hr hc (slotJoins_true l (fun x hx => fit_of (q x hx))) hG
end Go.Proofs.YtnllfppkfdnjpabDoor.L
