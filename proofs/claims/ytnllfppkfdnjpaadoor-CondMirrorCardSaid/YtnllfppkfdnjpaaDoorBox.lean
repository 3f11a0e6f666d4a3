/- An instruction in a block of its own. -/
import Derived.Test.YtnllfppkfdnjpaaDoorGiven
import Derived.Test.YtnllfppkfdnjpaaDoorWSized
namespace Go.Proofs.YtnllfppkfdnjpaaDoor.Q
open Go Go.RowKit Go.Proofs.YtnllfppkfdnjpaaDoor.Ops Go.Proofs.YtnllfppkfdnjpaaDoorW.PrintWords

structure Box (w : World) (b : Nat) (o : Int) (r : Bool) (d s f im : Int) : Prop where
  c0 : w.cell? ⟨b, 0, none⟩ = some (.int .i64 o)
  c1 : w.cell? ⟨b, 1, none⟩ = some (.bool r)
  c2 : w.cell? ⟨b, 2, none⟩ = some (.int .i64 d)
  c3 : w.cell? ⟨b, 3, none⟩ = some (.int .i64 s)
  c4 : w.cell? ⟨b, 4, none⟩ = some (.int .i64 f)
  c5 : w.cell? ⟨b, 5, none⟩ = some (.int .i64 im)
theorem Box.step {w w2 : World} {b : Nat} {o : Int} {r : Bool} {d s f im : Int} (h : Box w b o r d s f im) (hb : Below w.heap.size w w2) : Box w2 b o r d s f im :=
  have l := block_lt_of_cell h.c0
  ⟨(hb.cell (p := ⟨b, 0, none⟩) l).trans h.c0, (hb.cell (p := ⟨b, 1, none⟩) l).trans h.c1, (hb.cell (p := ⟨b, 2, none⟩) l).trans h.c2, (hb.cell (p := ⟨b, 3, none⟩) l).trans h.c3, (hb.cell (p := ⟨b, 4, none⟩) l).trans h.c4, (hb.cell (p := ⟨b, 5, none⟩) l).trans h.c5⟩
theorem box0 (w : World) (o : Int) (r : Bool) (d s f im : Int) : Box (w.alloc (.cells #[.int .i64 o, .bool r, .int .i64 d, .int .i64 s, .int .i64 f, .int .i64 im] 29)) w.heap.size o r d s f im := by
  constructor
  all_goals simp
theorem Box.alloc {w : World} {b : Nat} {o : Int} {r : Bool} {d s f im : Int} (h : Box w b o r d s f im) (x : Obj) : Box (w.alloc x) b o r d s f im := h.step ((Below.refl _ w).alloc (Nat.le_refl _) x)
theorem Box.drew {w : World} {b : Nat} {o : Int} {r : Bool} {d s f im : Int} (h : Box w b o r d s f im) : Box w.drew b o r d s f im := ⟨h.c0, h.c1, h.c2, h.c3, h.c4, h.c5⟩
end Go.Proofs.YtnllfppkfdnjpaaDoor.Q
