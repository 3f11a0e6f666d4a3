/- The evaluator over a range of arguments at once, and what it says in 'Below'. -/
import Derived.Test.YtnllfppkfdnjpabDoorOwn
namespace Go.Proofs.YtnllfppkfdnjpabDoor.Own
open Go Go.RowKit

theorem Rel.below {w w' : World} {m : List (Option Obj)} (h : Rel w m w') : Below w.heap.size w w' :=
  ⟨h.os, h.tape, h.output, by rw [h.size]; omega, h.old⟩

def lhs (r : Option (Value × St)) : Value × List Nat := match r with
  | some r => (r.1, r.2.ob.map (·.1))
  | none => (.bool false, [0])
def rhs (v : Value) (r : Option (Value × St)) : Value × List Nat := match r with
  | some r => (v, r.2.ob.map (·.2))
  | none => (.bool false, [1])

def noGlob : Nat → Option (Array Value) := fun _ => none
theorem noGlob_ok (w : World) : Glob noGlob w := fun _ _ h => by cases h
def noSpec : FuncId → Array Value → Option (Value × List (Option Obj)) := fun _ _ => none
theorem noSpec_ok (P : Program) (w : World) : SpecOk P w noSpec := fun _ _ _ _ h => by cases h

section
variable {P : Program} {glob : Nat → Option (Array Value)}
theorem calls_of_lhs {spec : FuncId → Array Value → Option (Value × List (Option Obj))} {n d : Nat} {w : World} (hg : Glob glob w) (hsp : SpecOk P w spec) {f : FuncId} {args : Array Value} {v : Value}
    (h : lhs (run P glob spec n d w.heap.size f args) = rhs v (run P glob spec n d w.heap.size f args)) : Calls P f args w fun e w' => e = .returned v ∧ Below w.heap.size w w' := by
  cases hr : run P glob spec n d w.heap.size f args with
  | none => rw [hr] at h; simp [lhs, rhs] at h
  | some r =>
    rw [hr] at h
    simp only [lhs, rhs, Prod.mk.injEq] at h
    refine (calls_own_v (n := n) (d := d) hg hsp ?_ (by rw [hr]; rfl)).mono fun e w' ⟨h1, m, h2⟩ => ⟨h1, h2.below⟩
    rw [hr]
    simp only [Option.map_some, Option.some.injEq, Prod.mk.injEq]
    exact h

theorem calls_range {spec : FuncId → Array Value → Option (Value × List (Option Obj))} {n d : Nat} {f : FuncId} {mk : Nat → Array Value} {val : Nat → Value} {m : Nat}
    (h : ∀ B, (List.range m).map (fun i => lhs (run P glob spec n d B f (mk i))) = (List.range m).map (fun i => rhs (val i) (run P glob spec n d B f (mk i))))
    (i : Nat) (hi : i < m) {w : World} (hg : Glob glob w) (hsp : SpecOk P w spec) : Calls P f (mk i) w fun e w' => e = .returned (val i) ∧ Below w.heap.size w w' :=
  calls_of_lhs hg hsp (List.map_inj_left.1 (h w.heap.size) i (List.mem_range.2 hi))
end
end Go.Proofs.YtnllfppkfdnjpabDoor.Own
