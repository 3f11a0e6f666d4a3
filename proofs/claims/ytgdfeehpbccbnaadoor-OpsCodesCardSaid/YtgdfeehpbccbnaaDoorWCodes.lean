/- The walk of OpsCodes. -/
import Derived.Test.YtgdfeehpbccbnaaDoorAlive
namespace Go.Proofs.YtgdfeehpbccbnaaDoor.L
open Go Go.RowKit Go.Proofs.YtgdfeehpbccbnaaDoor.Ops

set_option maxRecDepth 100000 in
set_option maxHeartbeats 1000000 in
theorem opsCodes_walk (n : Int) (_ : (Lit.int .i64 n).wf = true) (w : World) (hG : G w) : Calls Tryd.prog 5 #[.int .i64 n] w fun e w' => e = .returned (.bool true) ∧ Below w.heap.size w w' := by
  have hb := Below.refl w.heap.size w
  have hg := hG
  go_enter Tryd.func5, Tryd.ntmps5
  go_wp2_with fail
  refine (code_any n false _ hg).mono ?_
  rintro e w1 ⟨rfl, hb1⟩
  have hb := hb.trans (hb1.mono hb.size)
  have hg := hG.below' hb
  go_wp2_with fail
  refine (code_any n true _ hg).mono ?_
  rintro e w2 ⟨rfl, hb2⟩
  have hb := hb.trans (hb2.mono hb.size)
  have hg := hG.below' hb
  go_wp2_with fail
  refine (rcode_any n false _).mono ?_
  rintro e w3 ⟨rfl, hb3⟩
  have hb := hb.trans (hb3.mono hb.size)
  have hg := hG.below' hb
  go_wp2_with fail
  refine (rcode_any n true _).mono ?_
  rintro e w4 ⟨rfl, hb4⟩
  have hb := hb.trans (hb4.mono hb.size)
  have hg := hG.below' hb
  go_wp2_with fail
  refine (alive_any _ hg).mono ?_
  rintro e w5 ⟨rfl, hb5⟩
  have hb := hb.trans (hb5.mono hb.size)
  have hg := hG.below' hb
  go_wp2_with fail
  go_ret
  exact ⟨rfl, hb⟩
end Go.Proofs.YtgdfeehpbccbnaaDoor.L
