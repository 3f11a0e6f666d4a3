/- The law CondHolds: what the printed function says is always true; its walk. -/
import Derived.Test.YtnllfppkfdnjpaaDoorPCond3
import Derived.Test.YtnllfppkfdnjpaaDoorIx4i
import Derived.OpenShut
namespace Go.Proofs.YtnllfppkfdnjpaaDoor.Q
open Go Go.RowKit Go.Proofs.YtnllfppkfdnjpaaDoor.Ops Go.Proofs.YtnllfppkfdnjpaaDoorW.PrintWords

theorem condHolds_true (o : Int) (r : Bool) (d s f i A B : Int) (hA : 0 ≤ A ∧ A ≤ 18446744073709551615) (hB : 0 ≤ B ∧ B ≤ 18446744073709551615) : slotcodelaw07_CondHolds.f 200 o r d s f i A B = some true := by
  unfold slotcodelaw07_CondHolds.f slotcodelaw07_alive.f
  by_cases h : formS o = 4
  · obtain ⟨c, c0, c1, hc, hb⟩ := form4_cases h
    have hn2 : bitsS o = 64 ∨ bitsS o = 32 := by omega
    rw [holds4 r d s f i hA hB h c0 c1 hc rfl hn2, rholds4 r d s f i hA hB h c0 c1 hc rfl hn2, cond_eq hn2 c0 c1 hA (opB_range hB)]
    simp
  · rw [holds_other r d s f i A B h]
    unfold slotcoderef07_Holds.f
    by_cases h3 : o = 44
    · have := (form3_iff o).2 h3
      rw [if_pos h3, this]
      simp
    · have : ¬ formS o = 3 := fun e => h3 ((form3_iff o).1 e)
      rw [if_neg h3, form_fC 200 (by omega)]
      simp [h, this]

end Go.Proofs.YtnllfppkfdnjpaaDoor.Q
namespace Go.Proofs.YtnllfppkfdnjpaaDoor.L
open Go Go.RowKit Go.Proofs.YtnllfppkfdnjpaaDoor.Ops Go.Proofs.YtnllfppkfdnjpaaDoor.Q Go.Proofs.YtnllfppkfdnjpaaDoorW.PrintWords

theorem condHolds_walk (w : World) (hG : GG w) (o : Int) (r : Bool) (d s f i A B : Int) (q : ((Lit.int .i64 o).wf = true ∧ True ∧ (Lit.int .i64 d).wf = true ∧ (Lit.int .i64 s).wf = true ∧ (Lit.int .i64 f).wf = true ∧ (Lit.int .i64 i).wf = true) ∧ (Lit.int .u64 A).wf = true ∧ (Lit.int .u64 B).wf = true) :
    Calls Tryd.prog 9 #[.agg #[.int .i64 o, .bool r, .int .i64 d, .int .i64 s, .int .i64 f, .int .i64 i, .int .u64 A, .int .u64 B]] w fun e w' => e = .returned (.bool true) ∧ Below w.heap.size w w' :=
  slotcodelaw07_CondHolds.calls 200 o r d s f i A B true w (condHolds_true o r d s f i A B (bounds_u64 q.2.1) (bounds_u64 q.2.2)) hG
end Go.Proofs.YtnllfppkfdnjpaaDoor.L
