/- The examples of chapter 3 hold. -/
import Derived.Test.YtgdfeehpbccbnaaDoorRef
namespace Go.Proofs.YtgdfeehpbccbnaaDoor.Ops
open Go Go.RowKit

def exitS : ByteArray := ⟨#[101, 120, 105, 116]⟩
theorem v1 : identF 15 9 0 9 = (0, true, true) := by kernel_rfl
theorem v2 : identF 55 0 1 0 = (12, false, true) := by kernel_rfl
theorem v3 : identF 55 0 2 0 = (0, false, false) := by kernel_rfl
theorem v4 : findF exitS = (68, true) := find_some (n := 68) (by omega) (by kernel_rfl)
theorem v5 : codeF 68 false = (149, true) := by kernel_rfl
theorem v6 : nameS 85 = ⟨#[108, 100, 109, 97, 112]⟩ := by kernel_rfl
theorem v7 : formS 0 = 0 := by kernel_rfl
theorem v8 : bitsS 71 = 32 := by kernel_rfl

set_option maxRecDepth 100000 in
set_option maxHeartbeats 1000000 in
theorem alive_any (w : World) (hG : G w) : Calls Tryd.prog 15 #[] w fun e w' => e = .returned (.bool true) ∧ Below w.heap.size w w' := by
  go_enter Tryd.func15, Tryd.ntmps15
  go_wp2_with fail
  refine (ident_any 15 9 0 9 _ hG).mono ?_
  rintro e w1 ⟨rfl, hb⟩
  rw [v1]
  have hg := hG.below' hb
  go_wp2_with fail
  refine (ident_any 55 0 1 0 _ hg).mono ?_
  rintro e w2 ⟨rfl, hb2⟩
  rw [v2]
  have hb := hb.trans (hb2.mono hb.size)
  have hg := hG.below' hb
  go_wp2_with fail
  refine (ident_any 55 0 2 0 _ hg).mono ?_
  rintro e w3 ⟨rfl, hb3⟩
  rw [v3]
  have hb := hb.trans (hb3.mono hb.size)
  have hg := hG.below' hb
  go_wp2_with fail
  refine (find_any exitS (by decide) _).mono ?_
  rintro e w4 ⟨rfl, hb4⟩
  rw [v4]
  have hb := hb.trans (hb4.mono hb.size)
  have hg := hG.below' hb
  go_wp2_with fail
  refine (code_any 68 false _ hg).mono ?_
  rintro e w5 ⟨rfl, hb5⟩
  rw [v5]
  have hb := hb.trans (hb5.mono hb.size)
  have hg := hG.below' hb
  go_wp2_with fail
  refine (count_any _).mono ?_
  rintro e w6 ⟨rfl, rfl⟩
  go_wp2_with fail
  refine (name_any 85 _ hg).mono ?_
  rintro e w7 ⟨rfl, hb7⟩
  rw [v6]
  have hb := hb.trans (hb7.mono hb.size)
  have hg := hG.below' hb
  go_wp2_with fail
  refine (form_any 0 _ hg).mono ?_
  rintro e w8 ⟨rfl, hb8⟩
  rw [v7]
  have hb := hb.trans (hb8.mono hb.size)
  have hg := hG.below' hb
  go_wp2_with fail
  refine (bits_any 71 _ hg).mono ?_
  rintro e w9 ⟨rfl, hb9⟩
  rw [v8]
  have hb := hb.trans (hb9.mono hb.size)
  go_wp2_with fail
  go_ret
  exact ⟨rfl, hb⟩
end Go.Proofs.YtgdfeehpbccbnaaDoor.Ops
