/- What the package-level variable of num holds. -/
import Derived.Test.YtnllfppkfdnjpabDoorGet
namespace Go.Proofs.YtnllfppkfdnjpabDoor.Ops
open Go Go.RowKit

structure WG (w : World) : Prop where
  c0 : w.cell? ⟨1, 0, none⟩ = some (.int .i64 8)
  c1 : w.cell? ⟨1, 1, none⟩ = some (.int .i64 16)
  c2 : w.cell? ⟨1, 2, none⟩ = some (.int .i64 32)
  c3 : w.cell? ⟨1, 3, none⟩ = some (.int .i64 64)
theorem WG.lt {w : World} (h : WG w) : 1 < w.heap.size := block_lt_of_cell h.c0
theorem WG.below {w w' : World} (h : WG w) (hb : Below w.heap.size w w') : WG w' :=
  ⟨(hb.cell (p := ⟨1, 0, none⟩) h.lt).trans h.c0, (hb.cell (p := ⟨1, 1, none⟩) h.lt).trans h.c1, (hb.cell (p := ⟨1, 2, none⟩) h.lt).trans h.c2, (hb.cell (p := ⟨1, 3, none⟩) h.lt).trans h.c3⟩
end Go.Proofs.YtnllfppkfdnjpabDoor.Ops
