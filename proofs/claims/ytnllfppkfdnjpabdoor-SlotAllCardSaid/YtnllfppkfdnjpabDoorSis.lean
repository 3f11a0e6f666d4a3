/- A store leaves the set of cells as it was: said so that the walk needs no proof of it store by store. -/
import Derived.WalkKit
namespace Go.Proofs.YtnllfppkfdnjpabDoor.Q
open Go

theorem isSome_setCell (w : World) (a b : Addr) (v : Value) : ((w.setCell a v).cell? b).isSome = (w.cell? b).isSome := by
  simp only [World.setCell, World.cell?, Array.getElem?_modify]
  by_cases hb : a.block = b.block
  · simp only [hb, if_true]
    cases hh : w.heap[b.block]? with
    | none => simp
    | some o =>
      cases o with
      | cells c e f =>
        simp only [Option.map_some]
        cases b.spot.isSome with
        | true => rfl
        | false =>
          simp only [Bool.false_eq_true, if_false]
          split
          · rfl
          · rw [Array.getElem?_setIfInBounds]
            split
            · split
              · rename_i h1 h2
                rw [← h1, Array.getElem?_eq_getElem h2]
                rfl
              · rename_i h1 h2
                rw [← h1, Array.getElem?_eq_none (by omega)]
            · rfl
      | _ => rfl
  · simp [hb]
/-- A store of a whole number, said once (what the walk's own simplifier proves of it, the kernel finds too great). -/
theorem run_store_at {P : Program} {oi : Oper} {ρ : Operand → Value} {w : World} {t : TypeId} {x y : Operand} (ho : oi.op = .store t x y) {p : Addr} (hx : ρ x = .pointer (some p)) {k : IntKind} {n : Int} (hy : ρ y = .int k n) {old : Value}
    (hs : ∀ w, Sem.run P (sizeOf t) w = .ok 1 w) (hc : w.cell? p = some old) (hf : w.frozen? p = false) : (execOp ρ oi).run P w = .ok .skip (w.setCell p (.int k n)) := by
  simp [execOp, ho, hx, hy, go_sem, hs, hc, hf]
end Go.Proofs.YtnllfppkfdnjpabDoor.Q
