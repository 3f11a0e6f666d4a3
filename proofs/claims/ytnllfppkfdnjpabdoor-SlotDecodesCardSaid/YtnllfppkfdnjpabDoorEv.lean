/- A pure evaluator for the model's code: where a call on closed arguments touches no memory, the kernel's own evaluation of this function is its contract. -/
import Derived.Calls
import Derived.Tactics
import Derived.LoopN
import Derived.KernelRfl
namespace Go.Proofs.YtnllfppkfdnjpabDoor.Ev
open Go

def semPure (P : Program) {α : Type} : Sem α → Option α
  | .pure a => some a
  | .program k => semPure P (k P)
  | .mark _ k => semPure P k
  | _ => none

theorem semPure_run {P : Program} {α : Type} : ∀ (s : Sem α) (a : α), semPure P s = some a → ∀ w, s.run P w = .ok a w := by
  intro s
  induction s with
  | pure b => intro a h w; simp only [semPure, Option.some.injEq] at h; subst h; rfl
  | program k ih => intro a h w; exact ih P a h w
  | mark m k ih => intro a h w; exact ih a h w
  | load m a k _ => intro a h; simp [semPure] at h
  | store m a v k _ => intro a h; simp [semPure] at h
  | new o k _ => intro a h; simp [semPure] at h
  | shape r k _ => intro a h; simp [semPure] at h
  | freeze a n k _ => intro a h; simp [semPure] at h
  | frozen a k _ => intro a h; simp [semPure] at h
  | getObj r k _ => intro a h; simp [semPure] at h
  | setObj r o k _ => intro a h; simp [semPure] at h
  | choose q k _ => intro a h; simp [semPure] at h
  | sys c k _ => intro a h; simp [semPure] at h
  | halt h => intro a h; simp [semPure] at h

def opsPure (P : Program) (call : FuncId → Array Value → Option Value) (all : Array Oper) : List Oper → Act → Option Act
  | [], a => some a
  | o :: rest, a =>
    if Region.wanted o (yielded all a.tmps) then
      match semPure P (execOp a.eval o) with
      | some (.value v) => opsPure P call all rest (a.put o.dst v)
      | some .skip => opsPure P call all rest (a.put o.dst undef)
      | some (.enter f args) =>
        match call f args with
        | some v => opsPure P call all rest (a.put o.dst v)
        | none => none
      | _ => none
    else opsPure P call all rest (a.put o.dst undef)

def Good (P : Program) (call : FuncId → Array Value → Option Value) : Prop :=
  ∀ f args v, call f args = some v → ∀ w, Calls P f args w fun e w' => e = .returned v ∧ w' = w

inductive PExit where
  | normal
  | exit (id : Nat)
  | ret

def PExit.up : PExit → Exit
  | .normal => .normal
  | .exit id => .exit id
  | .ret => .ret

end Go.Proofs.YtnllfppkfdnjpabDoor.Ev
