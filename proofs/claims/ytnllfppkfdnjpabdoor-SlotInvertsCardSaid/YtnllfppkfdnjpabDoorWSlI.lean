/- The law SlotInverts: its function returns true; the walk. -/
import Derived.Test.YtnllfppkfdnjpabDoorPSl6
import Derived.Test.YtnllfppkfdnjpabDoorKx17
import Derived.OpenShut
namespace Go.Proofs.YtnllfppkfdnjpabDoor.Q
open Go Go.RowKit Go.Proofs.YtnllfppkfdnjpabDoor.Ops Go.Proofs.YtnllfppkfdnjpabDoorW.PrintWords

theorem rchk_f (o : Int) (r : Bool) (d s f i : Int) (f1 : -9223372036854775808 ≤ f) (f2 : f ≤ 9223372036854775807) (i1 : -9223372036854775808 ≤ i) (i2 : i ≤ 9223372036854775807) : slotcoderef04_Check.f o r d s f i = some (checkF o r d s f i) := by
  unfold slotcoderef04_Check.f
  rw [check_eq _ _ _ _ _ _ f1 f2 i1 i2]
theorem enc16_le (o : Int) (r : Bool) (d s f i : Int) : (encB o r d s f i).length ≤ 16 := by
  rw [encB_length]
  split <;> omega
theorem slotInverts_true (o : Int) (r : Bool) (d s f i : Int) (f1 : -9223372036854775808 ≤ f) (f2 : f ≤ 9223372036854775807) (i1 : -9223372036854775808 ≤ i) (i2 : i ≤ 9223372036854775807) (l : List Int) (hb : Bytes l) : slotcodelaw05_SlotInverts.f 300 o r d s f i l = some true := by
  have h16 := enc16_le o r d s f i
  unfold slotcodelaw05_SlotInverts.f
  refine bindE (rchk_f o r d s f i f1 f2 i1 i2) ?_
  by_cases hc : checkF o r d s f i = 0
  · refine (if_pos hc).trans ?_
    rw [slotcodelaw05_SlotInverts.j0]
    by_cases hl : (l.length : Int) > 4000
    · refine (if_pos (decide_eq_true hl)).trans ?_
      rfl
    · refine (if_neg (by simpa using hl)).trans ?_
      have h1 := enc_f 299 (by omega) o r d s f i f1 f2 i1 i2
      rw [if_pos hc] at h1
      refine bindE h1 ?_
      refine bindE (a := encB o r d s f i) (by unfold slices_Clone_byte_byte.f; exact if_pos (by show (encB o r d s f i).length ≤ _; omega)) ?_
      refine (if_pos (by show (encB o r d s f i).length + l.length < _; omega)).trans ?_
      have h2 := dec_f 299 (by omega) (encB o r d s f i ++ l) (bytes_app (bytes_enc hc) hb)
      rw [dec_enc hc f1 f2 i1 i2 l] at h2
      refine bindE h2 ?_
      refine bindE (a := true) rfl ?_
      refine (if_pos rfl).trans ?_
      refine (if_pos rfl).trans ?_
      refine (if_pos rfl).trans ?_
      refine (if_pos (by simp)).trans ?_
      have he : ((encB o r d s f i).length : Int) = 8 * slotsT (formS o) ∧ (slotsT (formS o) = 1 ∨ slotsT (formS o) = 2) := encX_len (x := ⟨o, r, d, s, f, i⟩) hc
      show some (wrap64 (8 * slotsT (formS o)) == ((encB o r d s f i).length : Int)) = some true
      rw [show wrap64 (8 * slotsT (formS o)) = 8 * slotsT (formS o) by unfold wrap64; omega, he.1]
      simp
  · refine (if_neg hc).trans ?_
    rw [slotcodelaw05_SlotInverts.j0]
    refine (if_pos rfl).trans ?_
    rfl
end Go.Proofs.YtnllfppkfdnjpabDoor.Q
namespace Go.Proofs.YtnllfppkfdnjpabDoor.L
open Go Go.RowKit Go.Proofs.YtnllfppkfdnjpabDoor.Ops Go.Proofs.YtnllfppkfdnjpabDoor.Q Go.Proofs.YtnllfppkfdnjpabDoorW.PrintWords

theorem byte_bounds {a : Int} (h : (Lit.int .u8 a).wf = true) : 0 ≤ a ∧ a ≤ 255 := by
  have := bounds_u8 h
  omega
theorem bytes_wf {l : List Int} (q : ∀ y ∈ l, (Lit.int .u8 y).wf = true) : Bytes l := fun y hy => byte_bounds (q y hy)
def InsQ (x : S23) : Prop := (Lit.int .i64 x.f0).wf = true ∧ (True ∧ ((Lit.int .i64 x.f2).wf = true ∧ ((Lit.int .i64 x.f3).wf = true ∧ ((Lit.int .i64 x.f4).wf = true ∧ ((Lit.int .i64 x.f5).wf = true)))))
theorem fit_of {x : S23} (q : InsQ x) : Fit x := by
  have a := bounds_i64 q.2.2.2.2.1
  have b := bounds_i64 q.2.2.2.2.2
  exact ⟨by omega, by omega, by omega, by omega⟩
theorem slotInverts_walk (w : World) (hG : GG w) (x : S23) (q0 : InsQ x) (A : Option Addr) (c : Nat) (l : List Int) (hc : l.length ≤ c) (hr : Kd.C (Kd.int .u8) w A l.length l) (q : ∀ y ∈ l, (Lit.int .u8 y).wf = true) :
    Calls Tryd.prog 11 #[.agg #[.int .i64 x.f0, .bool x.f1, .int .i64 x.f2, .int .i64 x.f3, .int .i64 x.f4, .int .i64 x.f5], .slice A l.length c] w fun e w' => e = .returned (.bool true) ∧ Below w.heap.size w w' := by
  have h := fit_of q0
  exact slotcodelaw05_SlotInverts.calls 300 x.f0 x.f1 x.f2 x.f3 x.f4 x.f5 A c l true w hr hc (slotInverts_true _ _ _ _ _ _ h.1 h.2.1 h.2.2.1 h.2.2.2 l (bytes_wf q)) hG
end Go.Proofs.YtnllfppkfdnjpabDoor.L
