/- The law SlotEncodes: its function returns true; the walk. -/
import Derived.Test.YtnllfppkfdnjpabDoorPSl6
import Derived.Test.YtnllfppkfdnjpabDoorKx15
import Derived.OpenShut
namespace Go.Proofs.YtnllfppkfdnjpabDoor.Q
open Go Go.RowKit Go.Proofs.YtnllfppkfdnjpabDoor.Ops Go.Proofs.YtnllfppkfdnjpabDoorW.PrintWords

theorem rchk_f (o : Int) (r : Bool) (d s f i : Int) (f1 : -9223372036854775808 ≤ f) (f2 : f ≤ 9223372036854775807) (i1 : -9223372036854775808 ≤ i) (i2 : i ≤ 9223372036854775807) : slotcoderef04_Check.f o r d s f i = some (checkF o r d s f i) := by
  unfold slotcoderef04_Check.f
  rw [check_eq _ _ _ _ _ _ f1 f2 i1 i2]
theorem enc16_le (o : Int) (r : Bool) (d s f i : Int) : (encB o r d s f i).length ≤ 16 := by
  rw [encB_length]
  split <;> omega
theorem slotEncodes_true (o : Int) (r : Bool) (d s f i : Int) (f1 : -9223372036854775808 ≤ f) (f2 : f ≤ 9223372036854775807) (i1 : -9223372036854775808 ≤ i) (i2 : i ≤ 9223372036854775807) : slotcodelaw05_SlotEncodes.f 300 o r d s f i = some true := by
  have h16 := enc16_le o r d s f i
  unfold slotcodelaw05_SlotEncodes.f
  refine bindE (enc_f 300 (by omega) o r d s f i f1 f2 i1 i2) ?_
  refine bindE (rchk_f o r d s f i f1 f2 i1 i2) ?_
  by_cases hc : checkF o r d s f i = 0
  · refine (if_pos hc).trans ?_
    refine bindE (a := true) rfl ?_
    refine (if_pos rfl).trans ?_
    refine bindE (renc_f 300 (by omega) o r d s f i f1 f2 hc) ?_
    rw [if_pos hc]
    refine bindE (same_byte 300 _ (by show (encB o r d s f i).length < _; omega) (by show (encB o r d s f i).length ≤ _; omega)) ?_
    rfl
  · refine (if_neg hc).trans ?_
    refine bindE (a := true) rfl ?_
    refine (if_pos rfl).trans ?_
    rw [if_neg hc]
    refine (if_pos rfl).trans ?_
    show some (checkF o r d s f i == checkF o r d s f i) = _
    simp
end Go.Proofs.YtnllfppkfdnjpabDoor.Q
namespace Go.Proofs.YtnllfppkfdnjpabDoor.L
open Go Go.RowKit Go.Proofs.YtnllfppkfdnjpabDoor.Ops Go.Proofs.YtnllfppkfdnjpabDoor.Q Go.Proofs.YtnllfppkfdnjpabDoorW.PrintWords

def InsQ (x : S23) : Prop := (Lit.int .i64 x.f0).wf = true ∧ (True ∧ ((Lit.int .i64 x.f2).wf = true ∧ ((Lit.int .i64 x.f3).wf = true ∧ ((Lit.int .i64 x.f4).wf = true ∧ ((Lit.int .i64 x.f5).wf = true)))))
theorem fit_of {x : S23} (q : InsQ x) : Fit x := by
  have a := bounds_i64 q.2.2.2.2.1
  have b := bounds_i64 q.2.2.2.2.2
  exact ⟨by omega, by omega, by omega, by omega⟩
theorem slotEncodes_walk (w : World) (hG : GG w) (x : S23) (q : InsQ x) :
    Calls Tryd.prog 9 #[.agg #[.int .i64 x.f0, .bool x.f1, .int .i64 x.f2, .int .i64 x.f3, .int .i64 x.f4, .int .i64 x.f5]] w fun e w' => e = .returned (.bool true) ∧ Below w.heap.size w w' := by
  have h := fit_of q
  exact slotcodelaw05_SlotEncodes.calls 300 x.f0 x.f1 x.f2 x.f3 x.f4 x.f5 true w (slotEncodes_true _ _ _ _ _ _ h.1 h.2.1 h.2.2.1 h.2.2.2) hG
end Go.Proofs.YtnllfppkfdnjpabDoor.L
