/- The walk of OpsTable. -/
import Derived.Test.YtgdfeehpbccbnaaDoorAlive
namespace Go.Proofs.YtgdfeehpbccbnaaDoor.L
open Go Go.RowKit Go.Proofs.YtgdfeehpbccbnaaDoor.Ops

set_option maxRecDepth 100000 in
set_option maxHeartbeats 1000000 in
theorem opsTable_walk (n : Int) (_ : (Lit.int .i64 n).wf = true) (w : World) (hG : G w) : Calls Tryd.prog 3 #[.int .i64 n] w fun e w' => e = .returned (.bool true) ∧ Below w.heap.size w w' := by
  go_enter Tryd.func3, Tryd.ntmps3
  go_wp2_with fail
  refine (alive_any _ hG).mono ?_
  rintro e w1 ⟨rfl, hb⟩
  have hg := hG.below' hb
  go_wp2_with fail
  refine (name_any n _ hg).mono ?_
  rintro e w2 ⟨rfl, hb2⟩
  have hb := hb.trans (hb2.mono hb.size)
  have hg := hG.below' hb
  go_wp2_with fail
  refine (rname_any n _).mono ?_
  rintro e w2 ⟨rfl, hb2⟩
  have hb := hb.trans (hb2.mono hb.size)
  have hg := hG.below' hb
  go_wp2_with fail
  refine (form_any n _ hg).mono ?_
  rintro e w2 ⟨rfl, hb2⟩
  have hb := hb.trans (hb2.mono hb.size)
  have hg := hG.below' hb
  go_wp2_with fail
  refine (rform_any n _).mono ?_
  rintro e w2 ⟨rfl, hb2⟩
  have hb := hb.trans (hb2.mono hb.size)
  have hg := hG.below' hb
  go_wp2_with fail
  refine (bits_any n _ hg).mono ?_
  rintro e w2 ⟨rfl, hb2⟩
  have hb := hb.trans (hb2.mono hb.size)
  have hg := hG.below' hb
  go_wp2_with fail
  refine (rbits_any n _).mono ?_
  rintro e w2 ⟨rfl, hb2⟩
  have hb := hb.trans (hb2.mono hb.size)
  go_wp2_with fail
  go_ret
  exact ⟨rfl, hb⟩
end Go.Proofs.YtgdfeehpbccbnaaDoor.L
