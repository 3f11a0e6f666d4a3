/- What the row's condition on the package-level variable gives the walks, and a start that meets it. -/
import Derived.Test.YtnllfppkfdnjpabDoorRows
import Derived.Test.YtnllfppkfdnjpabDoorGet
import Derived.Test.YtnllfppkfdnjpabDoorWid
import Derived.ProofKit
import Derived.LaidMore
import Derived.OpenShut
import Derived.Stop.Joined
namespace Go.Proofs.YtnllfppkfdnjpabDoor
open Go Go.ChangeShapes Go.WideShapes Go.ChangeAt Go.RowKit

theorem Tryd.own : ownKnob Tryd.prog.godebug = none := by kernel_rfl
theorem Tryd.laidOut : laidOutB Tryd.prog = true := by kernel_rfl
def laid : List (String × DataW Unit) := [("slotcode/ops.none", Rows.laid_slotcode_ops_none), ("slotcode/num.widths", Rows.laid_slotcode_num_widths)]
theorem gWid : Tryd.prog.globalNamed "slotcode/num.widths" = some 1 := by kernel_rfl
theorem tWid : (Tryd.prog.globals[1]?).map (·.type) = some 130 := by kernel_rfl
theorem gNone : Tryd.prog.globalNamed "slotcode/ops.none" = some 0 := by kernel_rfl
theorem tNone : (Tryd.prog.globals[0]?).map (·.type) = some 95 := by kernel_rfl
theorem door_met (os : Os) (args : Array Value) : laidMetH Tryd.prog laid ((World.doorLaid Tryd.prog 400 os).forCall (fun _ _ => 0) ⟨#[], args, []⟩).memory :=
  laidMetH_of_parts3 (fuel := 8) (laidMet_of_run' 8 (by kernel_rfl) (by kernel_rfl)) (by kernel_rfl) (by kernel_rfl)

theorem str_nil {s : ByteArray} (h : s.data.toList = []) : s = ⟨#[]⟩ := by
  obtain ⟨⟨l⟩⟩ := s
  simp only at h
  rw [h]

set_option maxRecDepth 100000 in
theorem of_none {W : World} {g0 : Nat} {t0 : TypeId} {cs0 : Array Value} {f0 : Nat} {p0 : List MemPlace} (hg0 : Tryd.prog.globalNamed "slotcode/ops.none" = some g0) (ht0 : (Tryd.prog.globals[g0]?).map (·.type) = some t0) (hv0 : W.var? Tryd.prog "slotcode/ops.none" = some cs0)
    (hd0 : DataW.trod (fun _ => ()) Tryd.prog W 0 (fun _ => true) false f0 t0 cs0.toList = some (Rows.laid_slotcode_ops_none, p0)) : Ops.G W := by
  obtain rfl := Option.some.inj (gNone.symm.trans hg0)
  obtain rfl := Option.some.inj (tNone.symm.trans ht0)
  obtain ⟨xs, n, _, hx, hl, hxl, hel⟩ := DataW.trod_struct Tryd.underlying95 hd0
  have c64 : Tryd.prog.cellsOf 95 = 7 := by kernel_rfl
  have c9 : Tryd.prog.cellsOf 9 = 1 := by kernel_rfl
  have c3 : Tryd.prog.cellsOf 3 = 1 := by kernel_rfl
  have c5 : Tryd.prog.cellsOf 5 = 1 := by kernel_rfl
  rw [c64] at hl
  obtain ⟨cs0⟩ := cs0
  simp only at hl hel
  match cs0, hl with
  | [a, b, c, d, e, f, g], _ =>
    have k0 := hel 0 { name := "name", type := 9, offset := 0, embedded := false, tag := "", pkgPath := "slotcode/ops", byteOffset := 0 } rfl
    have k1 := hel 1 { name := "form", type := 3, offset := 1, embedded := false, tag := "", pkgPath := "slotcode/ops", byteOffset := 16 } rfl
    have k2 := hel 2 { name := "bits", type := 3, offset := 2, embedded := false, tag := "", pkgPath := "slotcode/ops", byteOffset := 24 } rfl
    have k3 := hel 3 { name := "code", type := 5, offset := 3, embedded := false, tag := "", pkgPath := "slotcode/ops", byteOffset := 32 } rfl
    have k4 := hel 4 { name := "src", type := 3, offset := 4, embedded := false, tag := "", pkgPath := "slotcode/ops", byteOffset := 40 } rfl
    have k5 := hel 5 { name := "off", type := 3, offset := 5, embedded := false, tag := "", pkgPath := "slotcode/ops", byteOffset := 48 } rfl
    have k6 := hel 6 { name := "imm", type := 3, offset := 6, embedded := false, tag := "", pkgPath := "slotcode/ops", byteOffset := 56 } rfl
    simp only [c9, c3, c5, List.drop_zero, List.drop_succ_cons, List.take_succ_cons, List.take_zero] at k0 k1 k2 k3 k4 k5 k6
    simp only [Prod.mk.injEq, Rows.laid_slotcode_ops_none, DataW.agg.injEq] at hx
    match xs, hxl, hx, k0, k1, k2, k3, k4, k5, k6 with
    | [x0, x1, x2, x3, x4, x5, x6], _, hx, k0, k1, k2, k3, k4, k5, k6 =>
      simp only [List.map_cons, List.map_nil, List.cons.injEq, and_true] at hx
      obtain ⟨⟨y0, y1, y2, y3, y4, y5, y6⟩, _⟩ := hx
      obtain ⟨s, hs, e0, _⟩ := DataW.trod_string Tryd.underlying9 (show DataW.trod _ Tryd.prog W 0 _ false n 9 _ = some x0 from k0)
      obtain ⟨m1, h1, e1, _⟩ := DataW.trod_int Tryd.underlying3 (show DataW.trod _ Tryd.prog W 0 _ false n 3 _ = some x1 from k1)
      obtain ⟨m2, h2, e2, _⟩ := DataW.trod_int Tryd.underlying3 (show DataW.trod _ Tryd.prog W 0 _ false n 3 _ = some x2 from k2)
      obtain ⟨m3, h3, e3, _⟩ := DataW.trod_int Tryd.underlying5 (show DataW.trod _ Tryd.prog W 0 _ false n 5 _ = some x3 from k3)
      obtain ⟨m4, h4, e4, _⟩ := DataW.trod_int Tryd.underlying3 (show DataW.trod _ Tryd.prog W 0 _ false n 3 _ = some x4 from k4)
      obtain ⟨m5, h5, e5, _⟩ := DataW.trod_int Tryd.underlying3 (show DataW.trod _ Tryd.prog W 0 _ false n 3 _ = some x5 from k5)
      obtain ⟨m6, h6, e6, _⟩ := DataW.trod_int Tryd.underlying3 (show DataW.trod _ Tryd.prog W 0 _ false n 3 _ = some x6 from k6)
      rw [e0] at y0; rw [e1] at y1; rw [e2] at y2; rw [e3] at y3; rw [e4] at y4; rw [e5] at y5; rw [e6] at y6
      simp only [DataW.lit.injEq, Lit.string.injEq, Lit.int.injEq, true_and] at y0 y1 y2 y3 y4 y5 y6
      simp only [List.cons.injEq, and_true] at hs h1 h2 h3 h4 h5 h6
      have hs0 := str_nil y0.symm
      subst hs0 hs h1 h2 h3 h4 h5 h6
      subst y1 y2 y3 y4 y5 y6
      have hc := World.var?_cell hg0 hv0
      exact ⟨by simpa using hc 0, by simpa using hc 1, by simpa using hc 2, by simpa using hc 3, by simpa using hc 4, by simpa using hc 5, by simpa using hc 6⟩
set_option maxRecDepth 100000 in
theorem of_widths {W : World} {g0 : Nat} {t0 : TypeId} {cs0 : Array Value} {f0 : Nat} {p0 : List MemPlace} (hg0 : Tryd.prog.globalNamed "slotcode/num.widths" = some g0) (ht0 : (Tryd.prog.globals[g0]?).map (·.type) = some t0) (hv0 : W.var? Tryd.prog "slotcode/num.widths" = some cs0)
    (hd0 : DataW.trod (fun _ => ()) Tryd.prog W 0 (fun _ => true) false f0 t0 cs0.toList = some (Rows.laid_slotcode_num_widths, p0)) : Ops.WG W := by
  obtain rfl := Option.some.inj (gWid.symm.trans hg0)
  obtain rfl := Option.some.inj (tWid.symm.trans ht0)
  obtain ⟨xs, n, _, hx, hl, hxl, hel⟩ := DataW.trod_array Tryd.underlying130 hd0
  have c64 : Tryd.prog.cellsOf 130 = 4 := by kernel_rfl
  have c3 : Tryd.prog.cellsOf 3 = 1 := by kernel_rfl
  rw [c64] at hl
  obtain ⟨cs0⟩ := cs0
  simp only at hl hel
  match cs0, hl with
  | [a, b, c, d], _ =>
    have k0 := hel 0 (by omega)
    have k1 := hel 1 (by omega)
    have k2 := hel 2 (by omega)
    have k3 := hel 3 (by omega)
    simp only [c3, Nat.mul_one, List.drop_zero, List.drop_succ_cons, List.take_succ_cons, List.take_zero] at k0 k1 k2 k3
    simp only [Prod.mk.injEq, Rows.laid_slotcode_num_widths, DataW.agg.injEq] at hx
    match xs, hxl, hx, k0, k1, k2, k3 with
    | [x0, x1, x2, x3], _, hx, k0, k1, k2, k3 =>
      simp only [List.map_cons, List.map_nil, List.cons.injEq, and_true] at hx
      obtain ⟨⟨y0, y1, y2, y3⟩, _⟩ := hx
      obtain ⟨m0, h0, e0, _⟩ := DataW.trod_int Tryd.underlying3 (show DataW.trod _ Tryd.prog W 0 _ false n 3 _ = some x0 from k0)
      obtain ⟨m1, h1, e1, _⟩ := DataW.trod_int Tryd.underlying3 (show DataW.trod _ Tryd.prog W 0 _ false n 3 _ = some x1 from k1)
      obtain ⟨m2, h2, e2, _⟩ := DataW.trod_int Tryd.underlying3 (show DataW.trod _ Tryd.prog W 0 _ false n 3 _ = some x2 from k2)
      obtain ⟨m3, h3, e3, _⟩ := DataW.trod_int Tryd.underlying3 (show DataW.trod _ Tryd.prog W 0 _ false n 3 _ = some x3 from k3)
      rw [e0] at y0; rw [e1] at y1; rw [e2] at y2; rw [e3] at y3
      simp only [DataW.lit.injEq, Lit.int.injEq, true_and] at y0 y1 y2 y3
      simp only [List.cons.injEq, and_true] at h0 h1 h2 h3
      subst h0 h1 h2 h3
      subst y0 y1 y2 y3
      have hc := World.var?_cell hg0 hv0
      exact ⟨by simpa using hc 0, by simpa using hc 1, by simpa using hc 2, by simpa using hc 3⟩
theorem of_laid {W : World} (h : laidMetH Tryd.prog laid W) : Ops.G W ∧ Ops.WG W := by
  rw [MakeChecks.laidMetH_plain _ _ _ (by kernel_rfl)] at h
  obtain ⟨ps, ⟨g0, t0, cs0, f0, p0, q0, hg0, ht0, hv0, hd0, ⟨g1, t1, cs1, f1, p1, q1, hg1, ht1, hv1, hd1, _, _⟩, _⟩, _, _⟩ := h
  exact ⟨of_none hg0 ht0 hv0 hd0, of_widths hg1 ht1 hv1 hd1⟩
end Go.Proofs.YtnllfppkfdnjpabDoor
