/- make([]T, 0, 16): an empty row of one's own with room for sixteen; slices.Clone of a slice of bytes. -/
import Derived.Test.YtnllfppkfdnjpabDoorGivenB
import Derived.Test.YtnllfppkfdnjpabDoorWWords
set_option linter.unusedVariables false
namespace Go.Proofs.YtnllfppkfdnjpabDoor.Q
open Go Go.RowKit Go.Proofs.YtnllfppkfdnjpabDoor.Ops Go.Proofs.YtnllfppkfdnjpabDoorW.PrintWords

section
variable {P : Program} {ops : Array Oper} {rest : List Oper} {o : Oper} {a : Act} {Q : Exit → Act → World → Prop} {Kc : Act → World → Prop} {α : Type}
theorem R_room (d : Kd α) (W : World) (base e : Nat) (cs : Array Value) (hcs : cs.size = 16 * d.sz) {ok : Nat → Prop} (hfresh : ok W.heap.size) (hbase : base ≤ W.heap.size) : d.R e (W.alloc (.cells cs e)) base ok (.slice (some ⟨W.heap.size, 0, none⟩) 0 16) [] := by
  refine ⟨fun k hk => ?_, [], ⟨by simp, .inr ⟨W.heap.size, 16, cs, rfl, hbase, heap_alloc_new W _, Nat.zero_le _, by decide, hcs, by simp⟩⟩, Reps.none _ _⟩
  have : W.heap.size = k := by simpa [Value.ownBlock] using hk
  subst this
  exact hfresh
theorem room_run (W : World) {t e : TypeId} (ht : P.underlying t = some (.slice e)) (z : Value) (sz bytes : Nat) (hinfo : (P.info? e).map (fun i => (i.zero, i.size, i.bytes)) = some (some z, sz, bytes)) (hb0 : 0 < bytes ∧ bytes ≤ 1000) (x y : Operand) (ho : o.op = .makeSlice t x y) (n : Int) (hx : a.eval x = .int .i64 n) (hy : a.eval y = .int .i64 16) (h0 : n = 0) :
    (execOp a.eval o).run P W = .ok (.value (.slice (some ⟨W.heap.size, 0, none⟩) 0 16)) (W.alloc (.cells (madeCells z.cells (16 * sz)) e)) := by
  subst h0
  obtain ⟨i0, hi, hzz⟩ := Option.map_eq_some_iff.1 hinfo
  simp only [Prod.mk.injEq] at hzz
  obtain ⟨hz0, hz1, hz2⟩ := hzz
  have hr := run_make (P := P) W t e i0 z ht hi hz0 .i64 .i64 (0 : Int) (16 : Int) (by omega) (by omega) (by rw [hz2]; omega) (by omega)
  rw [hz1] at hr
  simp only [Int.toNat_zero, Int.reduceToNat] at hr
  simp [execOp, ho, hx, hy, hr, Result.andThen]
theorem Kd.R_make0_step (d : Kd α) {w0 W : World} (base e : Nat) (hw : Region.wanted o (yielded ops a.tmps) = true) {N : Tmp} (hd : o.dst = some N) (t : TypeId) (x y : Operand) (ho : o.op = .makeSlice t x y) (n : Int) (hx : a.eval x = .int .i64 n) (hy : a.eval y = .int .i64 16)
    (ht : P.underlying t = some (.slice e)) (z : Value) (bytes : Nat) (hinfo : (P.info? e).map (fun i => (i.zero, i.size, i.bytes)) = some (some z, d.sz, bytes)) (hz : z.cells.size = d.sz) (hs0 : 0 < d.sz) (hb0 : 0 < bytes ∧ bytes ≤ 1000)
    (z0 : α) {ok okp : Nat → Prop} (hzero : d.M W base okp z0 z.cells.toList) (hok : ∀ k, okp k → ok k) (hfresh : ok W.heap.size) (h0 : n = 0) (hl : n.toNat * bytes ≤ 281474976710656) (HB : Below base w0 W) (hbase : base ≤ W.heap.size)
    (h : ∀ v1 w1, d.R e w1 base ok v1 (List.replicate n.toNat z0) → Below base w0 w1 → W.grownBy w1 none → (∃ b, v1.ownBlock = some b ∧ W.heap.size ≤ b) → Kc (a.put o.dst v1) w1) : if Region.wanted o (yielded ops a.tmps) = true then Oper.wp P o a W Kc Q else Kc (a.put o.dst undef) W := by
  have hr := room_run (P := P) (o := o) (a := a) W ht z d.sz bytes hinfo hb0 x y ho n hx hy h0
  subst h0
  refine event_step hw hr (h _ _ (R_room d W base e _ (by simp [size_madeCells]) hfresh hbase) (HB.alloc hbase _) (World.grownBy_alloc W _ none) ⟨W.heap.size, by simp [Value.ownBlock], Nat.le_refl _⟩)
end
end Go.Proofs.YtnllfppkfdnjpabDoor.Q
