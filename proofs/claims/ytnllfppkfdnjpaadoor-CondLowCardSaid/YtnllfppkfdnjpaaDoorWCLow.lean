/- The law CondLow: what the printed function says is always true; its walk. -/
import Derived.Test.YtnllfppkfdnjpaaDoorPCond3
import Derived.Test.YtnllfppkfdnjpaaDoorIx5q
import Derived.OpenShut
namespace Go.Proofs.YtnllfppkfdnjpaaDoor.Q
open Go Go.RowKit Go.Proofs.YtnllfppkfdnjpaaDoor.Ops Go.Proofs.YtnllfppkfdnjpaaDoorW.PrintWords

theorem condLow_true (o : Int) (r : Bool) (d s f i A B a b : Int) (hA : 0 ≤ A ∧ A ≤ 18446744073709551615) (hB : 0 ≤ B ∧ B ≤ 18446744073709551615) : slotcodelaw07_CondLow.f 200 o r d s f i A B a b = some true := by
  unfold slotcodelaw07_CondLow.f
  rw [form_fC 200 (by omega)]
  simp only [Option.bind_some]
  by_cases h : formS o = 4
  · obtain ⟨c, c0, c1, hc, hb⟩ := form4_cases h
    rw [if_pos h, rbits_f h]
    simp only [Option.bind_some]
    simp only [slotcodelaw07_CondLow.j0, slotcodelaw07_alive.f, Option.bind_some, if_true]
    by_cases h32 : bitsS o = 32
    · have hx : (bitsS o != 32) = false := by simp [h32]
      rw [hx, holds4 r d s f i hA hB h c0 c1 hc h32 (.inr rfl), holds4 r d s f i (u64_in _) (u64_in _) h c0 c1 hc h32 (.inr rfl), sx_low, sx_tmod hA.1]
      have e : sx 32 (opB r i (IntKind.u64.wrap (Int.tmod B 4294967296 + IntKind.u64.wrap (IntKind.u64.wrap b * 4294967296)))) = sx 32 (opB r i B) := by
        unfold opB
        cases r with
        | true => rw [if_pos rfl, if_pos rfl, sx_low, sx_tmod hB.1]
        | false => rfl
      rw [e]
      simp
    · have hx : (bitsS o != 32) = true := by simp [h32]
      rw [hx]
      rfl
  · rw [if_neg h]
    rfl

end Go.Proofs.YtnllfppkfdnjpaaDoor.Q
namespace Go.Proofs.YtnllfppkfdnjpaaDoor.L
open Go Go.RowKit Go.Proofs.YtnllfppkfdnjpaaDoor.Ops Go.Proofs.YtnllfppkfdnjpaaDoor.Q Go.Proofs.YtnllfppkfdnjpaaDoorW.PrintWords

theorem condLow_walk (w : World) (hG : GG w) (o : Int) (r : Bool) (d s f i A B : Int) (q : ((Lit.int .i64 o).wf = true ∧ True ∧ (Lit.int .i64 d).wf = true ∧ (Lit.int .i64 s).wf = true ∧ (Lit.int .i64 f).wf = true ∧ (Lit.int .i64 i).wf = true) ∧ (Lit.int .u64 A).wf = true ∧ (Lit.int .u64 B).wf = true)
    (a : Int) {Q1 : Prop} (_ : Q1) (b : Int) {Q2 : Prop} (_ : Q2) :
    Calls Tryd.prog 14 #[.agg #[.int .i64 o, .bool r, .int .i64 d, .int .i64 s, .int .i64 f, .int .i64 i, .int .u64 A, .int .u64 B], .int .u32 a, .int .u32 b] w fun e w' => e = .returned (.bool true) ∧ Below w.heap.size w w' :=
  slotcodelaw07_CondLow.calls 200 o r d s f i A B a b true w (condLow_true o r d s f i A B a b (bounds_u64 q.2.1) (bounds_u64 q.2.2)) hG
end Go.Proofs.YtnllfppkfdnjpaaDoor.L
