/- The walk of OpsIdentifies. -/
import Derived.Test.YtgdfeehpbccbnaaDoorRIdent
namespace Go.Proofs.YtgdfeehpbccbnaaDoor.L
open Go Go.RowKit Go.Proofs.YtgdfeehpbccbnaaDoor.Ops

set_option maxRecDepth 100000 in
set_option maxHeartbeats 1000000 in
theorem opsIdentifies_walk (code : Int) (_ : (Lit.int .u8 code).wf = true) (src : Int) (_ : (Lit.int .i64 src).wf = true) (a b : Int) (w : World) (hG : G w) :
    Calls Tryd.prog 6 #[.int .u8 code, .int .i64 src, .agg #[.int .i64 a, .int .i64 b]] w fun e w' => e = .returned (.bool true) ∧ Below w.heap.size w w' := by
  go_enter Tryd.func6, Tryd.ntmps6
  go_wp2_with fail
  have hB0 : Below w.heap.size w (w.alloc (.cells #[.int .i64 a, .int .i64 b] 31)) := (Below.refl _ _).alloc (Nat.le_refl _) _
  refine (ident_any code src a b _ (hG.below' hB0)).mono ?_
  rintro e w1 ⟨rfl, hb1⟩
  have hb := hB0.trans (hb1.mono hB0.size)
  have hg := hG.below' hb
  have c0 : w1.cell? ⟨w.heap.size, 0, none⟩ = some (.int .i64 a) := (hb1.cell (p := ⟨w.heap.size, 0, none⟩) (by simp)).trans (by simp)
  have c1 : w1.cell? ⟨w.heap.size, 1, none⟩ = some (.int .i64 b) := (hb1.cell (p := ⟨w.heap.size, 1, none⟩) (by simp)).trans (by simp)
  clear hb1 hB0
  go_wp2_with fail
  refine (rident_any code src a b _).mono ?_
  rintro e w2 ⟨rfl, hb2⟩
  have hb := hb.trans (hb2.mono hb.size)
  have hg := hG.below' hb
  go_wp2_with fail
  refine (alive_any _ hg).mono ?_
  rintro e w3 ⟨rfl, hb3⟩
  have hb := hb.trans (hb3.mono hb.size)
  go_wp2_with fail
  go_ret
  exact ⟨rfl, hb⟩
end Go.Proofs.YtgdfeehpbccbnaaDoor.L
