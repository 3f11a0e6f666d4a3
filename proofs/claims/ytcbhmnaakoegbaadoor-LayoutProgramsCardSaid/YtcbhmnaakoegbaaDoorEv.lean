/- A pure evaluator for the model's code: where a call on closed arguments touches no memory, the kernel's own evaluation of this function is its contract. -/
import Derived.Calls
import Derived.Tactics
import Derived.LoopN
import Derived.KernelRfl
namespace Go.Proofs.YtcbhmnaakoegbaaDoor.Ev
open Go

def semPure (P : Program) {α : Type} : Sem α → Option α
  | .pure a => some a
  | .program k => semPure P (k P)
  | .mark _ k => semPure P k
  | _ => none

theorem semPure_run {P : Program} {α : Type} : ∀ (s : Sem α) (a : α), semPure P s = some a → ∀ w, s.run P w = .ok a w := by
  intro s
  induction s with
  | pure b => intro a h w; simp only [semPure, Option.some.injEq] at h; subst h; rfl
  | program k ih => intro a h w; exact ih P a h w
  | mark m k ih => intro a h w; exact ih a h w
  | load m a k _ => intro a h; simp [semPure] at h
  | store m a v k _ => intro a h; simp [semPure] at h
  | new o k _ => intro a h; simp [semPure] at h
  | shape r k _ => intro a h; simp [semPure] at h
  | freeze a n k _ => intro a h; simp [semPure] at h
  | frozen a k _ => intro a h; simp [semPure] at h
  | getObj r k _ => intro a h; simp [semPure] at h
  | setObj r o k _ => intro a h; simp [semPure] at h
  | choose q k _ => intro a h; simp [semPure] at h
  | sys c k _ => intro a h; simp [semPure] at h
  | halt h => intro a h; simp [semPure] at h

def opsPure (P : Program) (call : FuncId → Array Value → Option Value) (all : Array Oper) : List Oper → Act → Option Act
  | [], a => some a
  | o :: rest, a =>
    if Region.wanted o (yielded all a.tmps) then
      match semPure P (execOp a.eval o) with
      | some (.value v) => opsPure P call all rest (a.put o.dst v)
      | some .skip => opsPure P call all rest (a.put o.dst undef)
      | some (.enter f args) =>
        match call f args with
        | some v => opsPure P call all rest (a.put o.dst v)
        | none => none
      | _ => none
    else opsPure P call all rest (a.put o.dst undef)

def Good (P : Program) (call : FuncId → Array Value → Option Value) : Prop :=
  ∀ f args v, call f args = some v → ∀ w, Calls P f args w fun e w' => e = .returned v ∧ w' = w

theorem opsPure_wp {P : Program} {call : FuncId → Array Value → Option Value} {all : Array Oper} (hc : Good P call) :
    ∀ (l : List Oper) (a a' : Act), opsPure P call all l a = some a' → ∀ (Q : Exit → Act → World → Prop) (w : World), Q .normal a' w → wpList P all Q l a w
  | [], a, a', h, Q, w, hq => by
    simp only [opsPure, Option.some.injEq] at h
    subst h
    exact hq
  | o :: rest, a, a', h, Q, w, hq => by
    unfold opsPure at h
    unfold wpList
    split at h
    · rename_i hw
      rw [if_pos hw]
      left
      unfold Oper.wp
      split at h
      · rename_i v hv
        rw [semPure_run _ _ hv w]
        exact opsPure_wp hc rest _ _ h Q w hq
      · rename_i hv
        rw [semPure_run _ _ hv w]
        exact opsPure_wp hc rest _ _ h Q w hq
      · rename_i f args hv
        rw [semPure_run _ _ hv w]
        split at h
        · rename_i v hcall
          rw [Oper.upon_enter]
          refine (hc f args v hcall w).mono ?_
          rintro e w' ⟨rfl, rfl⟩
          exact opsPure_wp hc rest _ _ h Q w' hq
        · cases h
      · cases h
    · rename_i hw
      rw [if_neg hw]
      exact opsPure_wp hc rest _ _ h Q w hq

inductive PExit where
  | normal
  | exit (id : Nat)
  | ret

def PExit.up : PExit → Exit
  | .normal => .normal
  | .exit id => .exit id
  | .ret => .ret

def codePure (P : Program) (call : FuncId → Array Value → Option Value) : Nat → Code → Act → Option (PExit × Act)
  | 0, _, _ => none
  | n + 1, c, a =>
    match c with
    | .skip => some (.normal, a)
    | .label _ => some (.normal, a)
    | .region _ ops draw =>
      match draw with
      | true => none
      | false =>
        match opsPure P call ops ops.toList a with
        | some a' => some (.normal, a')
        | none => none
    | .seq x y =>
      match codePure P call n x a with
      | some (.normal, a1) => codePure P call n y a1
      | r => r
    | .cond c x y =>
      match a.eval c with
      | .bool b => codePure P call n (if b then x else y) a
      | _ => none
    | .block id x =>
      match codePure P call n x a with
      | some (.exit j, a1) => if j = id then some (.normal, a1) else some (.exit j, a1)
      | r => r
    | .loop x =>
      match codePure P call n x a with
      | some (.normal, a1) => codePure P call n (.loop x) a1
      | r => r
    | .exit id => some (.exit id, a)
    | .ret => some (.ret, a)
    | _ => none

theorem codePure_wp {P : Program} {call : FuncId → Array Value → Option Value} (hc : Good P call) :
    ∀ (n : Nat), (∀ (c : Code) (a a' : Act) (e : PExit), codePure P call n c a = some (e, a') → ∀ (Q : Exit → Act → World → Prop) (w : World), Q e.up a' w → c.wp P Q a w) ∧
      (∀ (x : Code) (a a' : Act) (e : PExit), codePure P call n (.loop x) a = some (e, a') → ∀ (Q : Exit → Act → World → Prop) (w : World), Q e.up a' w → Code.rounds P x Q n a w) := by
  intro n
  induction n with
  | zero => exact ⟨fun c a a' e h => by simp [codePure] at h, fun x a a' e h => by simp [codePure] at h⟩
  | succ n ih =>
    obtain ⟨ihc, ihl⟩ := ih
    have hloop : ∀ (x : Code) (a a' : Act) (e : PExit), codePure P call (n + 1) (.loop x) a = some (e, a') → ∀ (Q : Exit → Act → World → Prop) (w : World), Q e.up a' w → Code.rounds P x Q (n + 1) a w := by
      intro x a a' e h Q w hq
      rw [rounds_succ]
      simp only [codePure] at h
      split at h
      · rename_i a1 h1
        exact ihc x a a1 .normal h1 _ w (ihl x a1 a' e h Q w hq)
      · rename_i hne
        refine ihc x a a' e h _ w ?_
        cases e with
        | normal => exact absurd h (hne a')
        | exit id => exact hq
        | ret => exact hq
    refine ⟨?_, hloop⟩
    intro c a a' e h Q w hq
    cases c with
    | skip =>
      simp only [codePure, Option.some.injEq, Prod.mk.injEq] at h
      obtain ⟨rfl, rfl⟩ := h
      exact wp_skip hq
    | label l =>
      simp only [codePure, Option.some.injEq, Prod.mk.injEq] at h
      obtain ⟨rfl, rfl⟩ := h
      exact wp_label hq
    | region id ops draw =>
      simp only [codePure] at h
      cases draw with
      | true => simp at h
      | false =>
        simp only at h
        split at h
        · rename_i a1 h1
          simp only [Option.some.injEq, Prod.mk.injEq] at h
          obtain ⟨rfl, rfl⟩ := h
          exact wp_region_list (opsPure_wp hc _ _ _ h1 Q w hq)
        · cases h
    | seq x y =>
      simp only [codePure] at h
      split at h
      · rename_i a1 h1
        exact wp_seq (ihc x a a1 .normal h1 _ w (ihc y a1 a' e h Q w hq))
      · rename_i hne
        refine wp_seq (ihc x a a' e h _ w ?_)
        cases e with
        | normal => exact absurd h (hne a')
        | exit id => exact hq
        | ret => exact hq
    | cond c x y =>
      simp only [codePure] at h
      split at h
      · rename_i b hb
        exact wp_cond hb (ihc _ a a' e h Q w hq)
      · cases h
    | block id x =>
      simp only [codePure] at h
      split at h
      · rename_i j a1 h1
        refine wp_block (ihc x a a1 (.exit j) h1 _ w ?_)
        split at h
        · rename_i hj
          simp only [Option.some.injEq, Prod.mk.injEq] at h
          obtain ⟨rfl, rfl⟩ := h
          show Exit.inBlock id Q (.exit j) a1 w
          simp only [Exit.inBlock, hj, if_true]
          exact hq
        · rename_i hj
          simp only [Option.some.injEq, Prod.mk.injEq] at h
          obtain ⟨rfl, rfl⟩ := h
          show Exit.inBlock id Q (.exit j) a1 w
          simp only [Exit.inBlock, hj, if_false]
          exact hq
      · rename_i hne
        refine wp_block (ihc x a a' e h _ w ?_)
        cases e with
        | normal => exact hq
        | exit id' => exact absurd h (hne id' a')
        | ret => exact hq
    | loop x => exact wp_loop_rounds (n + 1) (hloop x a a' e h Q w hq)
    | exit id =>
      simp only [codePure, Option.some.injEq, Prod.mk.injEq] at h
      obtain ⟨rfl, rfl⟩ := h
      exact wp_exit hq
    | ret =>
      simp only [codePure, Option.some.injEq, Prod.mk.injEq] at h
      obtain ⟨rfl, rfl⟩ := h
      exact wp_ret hq
    | rangeFunc f p s b => simp [codePure] at h
    | scope b => simp [codePure] at h
    | goto l => simp [codePure] at h
    | refuse y => simp [codePure] at h

/-- d: how deep calls may nest; n: the fuel of each function's code. -/
def callPure (P : Program) (n : Nat) : Nat → FuncId → Array Value → Option Value
  | 0, _, _ => none
  | d + 1, f, args =>
    match P.funcs[f]? with
    | some fn =>
      match fn.body with
      | some c =>
        match codePure P (callPure P n d) n c { tmps := args ++ Array.replicate (fn.ntmps - args.size) undef, defers := [] } with
        | some (.normal, a) => match a.defers with | [] => semPure P (results fn a.tmps) | _ => none
        | some (.ret, a) => match a.defers with | [] => semPure P (results fn a.tmps) | _ => none
        | _ => none
      | none => none
    | none => none

theorem callPure_good {P : Program} {n : Nat} : ∀ d, Good P (callPure P n d)
  | 0 => fun f args v h => by simp [callPure] at h
  | d + 1 => fun f args v h w => by
    simp only [callPure] at h
    split at h
    · rename_i fn hf
      split at h
      · rename_i c hb
        split at h
        · rename_i a1 h1
          split at h
          · rename_i hd
            exact calls_of_wp hf hb (((codePure_wp (callPure_good d) n).1 c _ _ _ h1) _ w ⟨hd, v, semPure_run _ _ h w, rfl, rfl⟩)
          · cases h
        · rename_i a1 h1
          split at h
          · rename_i hd
            exact calls_of_wp hf hb (((codePure_wp (callPure_good d) n).1 c _ _ _ h1) _ w ⟨hd, v, semPure_run _ _ h w, rfl, rfl⟩)
          · cases h
        · cases h
      · cases h
    · cases h

theorem calls_pure {P : Program} {n d : Nat} {f : FuncId} {args : Array Value} {v : Value} (h : callPure P n d f args = some v) (w : World) :
    Calls P f args w fun e w' => e = .returned v ∧ w = w' :=
  (callPure_good d f args v h w).mono fun _ _ ⟨h1, h2⟩ => ⟨h1, h2.symm⟩
end Go.Proofs.YtcbhmnaakoegbaaDoor.Ev
