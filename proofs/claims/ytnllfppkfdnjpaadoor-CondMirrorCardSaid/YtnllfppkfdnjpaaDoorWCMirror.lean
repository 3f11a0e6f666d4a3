/- The law CondMirror: what the printed function says is always true; its walk. -/
import Derived.Test.YtnllfppkfdnjpaaDoorPCond3
import Derived.Test.YtnllfppkfdnjpaaDoorIx5
import Derived.OpenShut
namespace Go.Proofs.YtnllfppkfdnjpaaDoor.Q
open Go Go.RowKit Go.Proofs.YtnllfppkfdnjpaaDoor.Ops Go.Proofs.YtnllfppkfdnjpaaDoorW.PrintWords

theorem condMirror_true (o : Int) (r : Bool) (d s f i A B : Int) (hA : 0 ≤ A ∧ A ≤ 18446744073709551615) (hB : 0 ≤ B ∧ B ≤ 18446744073709551615) : slotcodelaw07_CondMirror.f o r d s f i A B = some true := by
  unfold slotcodelaw07_CondMirror.f slotcodelaw07_alive.f cond_Mirror.f
  simp only [Option.bind_some]
  by_cases h : (pairF mirL o).2 = true
  · obtain ⟨c, j, n, c0, c1, ho, hm, e⟩ := pair_ok h
    obtain ⟨hf, hc, hn, hn2⟩ := form4_mk ho c0 c1
    obtain ⟨⟨j0, j1⟩, hx⟩ := mir_cond c j c0 c1 hm n (sx n A) (sx n B)
    have hp : wrap64 (wrap64 (o - c) + j) = o - c + j := by unfold wrap64; omega
    obtain ⟨pf, pc, pn, _⟩ := form4_mk (o := o - c + j) (c := j) (n := n) (by omega) j0 j1
    rw [if_pos h, if_pos trivial, e, hp, holds4 true d s f i hB hA pf j0 j1 pc pn hn2, holds4 true d s f i hA hB hf c0 c1 hc hn hn2]
    simp only [Option.bind_some, opB, if_true, hx, beq_self_eq_true]
  · rw [if_neg h]

end Go.Proofs.YtnllfppkfdnjpaaDoor.Q
namespace Go.Proofs.YtnllfppkfdnjpaaDoor.L
open Go Go.RowKit Go.Proofs.YtnllfppkfdnjpaaDoor.Ops Go.Proofs.YtnllfppkfdnjpaaDoor.Q Go.Proofs.YtnllfppkfdnjpaaDoorW.PrintWords

theorem condMirror_walk (w : World) (hG : GG w) (o : Int) (r : Bool) (d s f i A B : Int) (q : ((Lit.int .i64 o).wf = true ∧ True ∧ (Lit.int .i64 d).wf = true ∧ (Lit.int .i64 s).wf = true ∧ (Lit.int .i64 f).wf = true ∧ (Lit.int .i64 i).wf = true) ∧ (Lit.int .u64 A).wf = true ∧ (Lit.int .u64 B).wf = true) :
    Calls Tryd.prog 12 #[.agg #[.int .i64 o, .bool r, .int .i64 d, .int .i64 s, .int .i64 f, .int .i64 i, .int .u64 A, .int .u64 B]] w fun e w' => e = .returned (.bool true) ∧ Below w.heap.size w w' :=
  slotcodelaw07_CondMirror.calls o r d s f i A B true w (condMirror_true o r d s f i A B (bounds_u64 q.2.1) (bounds_u64 q.2.2)) hG
end Go.Proofs.YtnllfppkfdnjpaaDoor.L
