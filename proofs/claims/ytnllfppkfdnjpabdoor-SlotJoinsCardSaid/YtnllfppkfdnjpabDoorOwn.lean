/- An evaluator for calls on closed arguments that make memory of their own: the heap below stays open (its size is a variable), what the call lays above it is told block by block. Which own block an address names comes from a run at a fixed base; that it is that block is an obligation that the kernel compares. -/
import Derived.Below
import Derived.Tactics
import Derived.LoopN
import Derived.KernelRfl
namespace Go.Proofs.YtnllfppkfdnjpabDoor.Own
open Go

structure St where
  mem : List (Option Obj)
  tr : List (Option Nat)
  ob : List (Nat × Nat)

/-- The world w' is w with the blocks 'mem' laid behind it (none: a block of which nothing is told). -/
structure Rel (w : World) (mem : List (Option Obj)) (w' : World) : Prop where
  size : w'.heap.size = w.heap.size + mem.length
  own : ∀ i o, mem[i]? = some (some o) → w'.heap[w.heap.size + i]? = some o
  old : ∀ b, b < w.heap.size → w'.heap[b]? = w.heap[b]?
  tape : w'.tape = w.tape
  os : w'.os = w.os
  output : w'.output = w.output

theorem Rel.refl (w : World) : Rel w [] w := ⟨by simp, fun i o h => by simp at h, fun _ _ => rfl, rfl, rfl, rfl⟩

def Glob (glob : Nat → Option (Array Value)) (w : World) : Prop :=
  ∀ g c, glob g = some c → g < w.heap.size ∧ ∀ j v, c[j]? = some v → w.cell? ⟨g, j, none⟩ = some v

section
variable (P : Program) (glob : Nat → Option (Array Value)) (conc : Bool) (B : Nat)

def idx (b : Nat) (s : St) : Option (Option Nat × St) :=
  match conc with
  | true => match Nat.ble B b with
    | true => some (some (b - B), { s with tr := some (b - B) :: s.tr })
    | false => some (none, { s with tr := none :: s.tr })
  | false =>
    match s.tr with
    | [] => none
    | none :: t => some (none, { s with tr := t })
    | some i :: t => some (some i, { mem := s.mem, tr := t, ob := (b, B + i) :: s.ob })

def cellAt (s : St) (i : Option Nat) (a : Addr) : Option Value :=
  match a.spot with
  | some _ => none
  | none =>
    match i with
    | some i => match s.mem[i]? with
      | some (some (.cells c _ _)) => c[a.off]?
      | _ => none
    | none => match glob a.block with
      | some c => c[a.off]?
      | none => none

def semOwn {α : Type} : Sem α → St → Option (α × St)
  | .pure a, s => some (a, s)
  | .program k, s => semOwn (k P) s
  | .mark _ k, s => semOwn k s
  | .new o k, s => semOwn (k (B + s.mem.length)) { s with mem := s.mem ++ [some o] }
  | .load _ a k, s =>
    match idx conc B a.block s with
    | some (i, s1) => match cellAt glob s1 i a with
      | some v => semOwn (k v) s1
      | none => none
    | none => none
  | .store _ a v k, s =>
    match v with
    | .agg _ => none
    | .tuple _ => none
    | v =>
      match idx conc B a.block s with
      | some (some i, s1) =>
        match a.spot with
        | some _ => none
        | none =>
          match s1.mem[i]? with
          | some (some (.cells c e (lo, hi))) =>
            match c[a.off]? with
            | some _ => match (decide (lo ≤ a.off) && decide (a.off < hi)) with
              | true => none
              | false => semOwn k { s1 with mem := s1.mem.set i (some (.cells (c.setIfInBounds a.off v) e (lo, hi))) }
            | none => none
          | _ => none
      | _ => none
  | .shape r k, s =>
    match idx conc B r s with
    | some (some i, s1) =>
      match s1.mem[i]? with
      | some (some (.cells c e _)) => semOwn (k (some (e, c.size))) s1
      | _ => none
    | _ => none
  | .frozen a k, s =>
    match idx conc B a.block s with
    | some (some i, s1) =>
      match s1.mem[i]? with
      | some (some (.cells _ _ (lo, hi))) => semOwn (k (decide (lo ≤ a.off) && decide (a.off < hi))) s1
      | _ => none
    | _ => none
  | .getObj r k, s =>
    match idx conc B r s with
    | some (some i, s1) =>
      match s1.mem[i]? with
      | some (some (.cells ..)) => none
      | some (some o) => semOwn (k o) s1
      | _ => none
    | _ => none
  | .setObj r o k, s =>
    match idx conc B r s with
    | some (some i, s1) =>
      match s1.mem[i]? with
      | some (some (.cells ..)) => none
      | some (some _) => semOwn k { s1 with mem := s1.mem.set i (some o) }
      | _ => none
    | _ => none
  | .choose q k, s => match q.forced with
    | true => semOwn (k 0) s
    | false => none
  | _, _ => none

/-- What reads alone. -/
def semRead {α : Type} : Sem α → St → Option (α × St)
  | .pure a, s => some (a, s)
  | .program k, s => semRead (k P) s
  | .mark _ k, s => semRead k s
  | .load _ a k, s =>
    match idx conc B a.block s with
    | some (i, s1) => match cellAt glob s1 i a with
      | some v => semRead (k v) s1
      | none => none
    | none => none
  | _, _ => none

def opsOwn (call : FuncId → Array Value → St → Option (Value × St)) (all : Array Oper) : List Oper → Act → St → Option (Act × St)
  | [], a, s => some (a, s)
  | o :: rest, a, s =>
    if Region.wanted o (yielded all a.tmps) then
      match semOwn P glob conc B (execOp a.eval o) s with
      | some (.value v, s1) => opsOwn call all rest (a.put o.dst v) s1
      | some (.skip, s1) => opsOwn call all rest (a.put o.dst undef) s1
      | some (.enter f args, s1) =>
        match call f args s1 with
        | some (v, s2) => opsOwn call all rest (a.put o.dst v) s2
        | none => none
      | _ => none
    else opsOwn call all rest (a.put o.dst undef) s

inductive PExit where
  | normal
  | exit (id : Nat)
  | ret

def PExit.up : PExit → Exit
  | .normal => .normal
  | .exit id => .exit id
  | .ret => .ret

def codeOwn (call : FuncId → Array Value → St → Option (Value × St)) : Nat → Code → Act → St → Option (PExit × Act × St)
  | 0, _, _, _ => none
  | n + 1, c, a, s =>
    match c with
    | .skip => some (.normal, a, s)
    | .label _ => some (.normal, a, s)
    | .region _ ops draw =>
      match draw with
      | true => none
      | false =>
        match opsOwn P glob conc B call ops ops.toList a s with
        | some (a', s') => some (.normal, a', s')
        | none => none
    | .seq x y =>
      match codeOwn call n x a s with
      | some (.normal, a1, s1) => codeOwn call n y a1 s1
      | r => r
    | .cond c x y =>
      match a.eval c with
      | .bool b => codeOwn call n (if b then x else y) a s
      | _ => none
    | .block id x =>
      match codeOwn call n x a s with
      | some (.exit j, a1, s1) => if j = id then some (.normal, a1, s1) else some (.exit j, a1, s1)
      | r => r
    | .loop x =>
      match codeOwn call n x a s with
      | some (.normal, a1, s1) => codeOwn call n (.loop x) a1 s1
      | r => r
    | .exit id => some (.exit id, a, s)
    | .ret => some (.ret, a, s)
    | _ => none

/-- d: how deep calls may nest; n: the fuel of each function's code; 'spec': calls that are known otherwise. -/
def callOwn (spec : FuncId → Array Value → Option (Value × List (Option Obj))) (n : Nat) : Nat → FuncId → Array Value → St → Option (Value × St)
  | 0, _, _, _ => none
  | d + 1, f, args, s =>
    match spec f args with
    | some (v, l) => some (v, { s with mem := s.mem ++ l })
    | none =>
      match P.funcs[f]? with
      | some fn =>
        match fn.body with
        | some c =>
          match codeOwn P glob conc B (callOwn spec n d) n c { tmps := args ++ Array.replicate (fn.ntmps - args.size) undef, defers := [] } s with
          | some (.normal, a, s1) => match a.defers with | [] => semRead P glob conc B (results fn a.tmps) s1 | _ => none
          | some (.ret, a, s1) => match a.defers with | [] => semRead P glob conc B (results fn a.tmps) s1 | _ => none
          | _ => none
        | none => none
      | none => none
end

def Ok (s : St) : Prop := ∀ p ∈ s.ob, p.1 = p.2
def Ext (s s' : St) : Prop := ∃ q, s'.ob = q ++ s.ob
theorem Ext.refl (s : St) : Ext s s := ⟨[], rfl⟩
theorem Ext.trans {s t u : St} (h : Ext s t) (h' : Ext t u) : Ext s u := by
  obtain ⟨q, hq⟩ := h
  obtain ⟨r, hr⟩ := h'
  exact ⟨r ++ q, by rw [hr, hq, List.append_assoc]⟩
theorem Ext.ok {s s' : St} (h : Ext s s') (hk : Ok s') : Ok s := by
  obtain ⟨q, hq⟩ := h
  intro p hp
  exact hk p (by rw [hq]; exact List.mem_append_right _ hp)

section
variable {P : Program} {glob : Nat → Option (Array Value)} {B : Nat}

theorem idx_spec {b : Nat} {s s1 : St} {i : Option Nat} (h : idx false B b s = some (i, s1)) :
    s1.mem = s.mem ∧ Ext s s1 ∧ (∀ j, i = some j → Ok s1 → b = B + j) := by
  unfold idx at h
  simp only at h
  split at h
  · cases h
  · simp only [Option.some.injEq, Prod.mk.injEq] at h
    obtain ⟨rfl, rfl⟩ := h
    exact ⟨rfl, ⟨[], rfl⟩, fun j hj => by cases hj⟩
  · simp only [Option.some.injEq, Prod.mk.injEq] at h
    obtain ⟨rfl, rfl⟩ := h
    refine ⟨rfl, ⟨[_], rfl⟩, fun j hj hk => ?_⟩
    cases hj
    exact hk (b, B + _) (List.mem_cons_self ..)

theorem semOwn_ext {α : Type} : ∀ (t : Sem α) (s : St) (a : α) (s' : St), semOwn P glob false B t s = some (a, s') → Ext s s' := by
  intro t
  induction t with
  | pure b => intro s a s' h; simp only [semOwn, Option.some.injEq, Prod.mk.injEq] at h; obtain ⟨_, rfl⟩ := h; exact .refl _
  | program k ih => intro s a s' h; exact ih P s a s' h
  | mark m k ih => intro s a s' h; exact ih s a s' h
  | new o k ih => intro s a s' h; exact ih _ { s with mem := s.mem ++ [some o] } a s' h
  | load m x k ih =>
    intro s a s' h
    simp only [semOwn] at h
    split at h
    · rename_i i s1 hi
      split at h
      · exact (idx_spec hi).2.1.trans (ih _ _ _ _ h)
      · cases h
    · cases h
  | store m x v k ih =>
    intro s a s' h
    simp only [semOwn] at h
    split at h
    · cases h
    · cases h
    · split at h
      · rename_i i s1 hi
        split at h
        · cases h
        · split at h
          · split at h
            · split at h
              · cases h
              · exact (idx_spec hi).2.1.trans (have z := ih _ _ _ h; z)
            · cases h
          · cases h
      · cases h
  | shape r k ih =>
    intro s a s' h
    simp only [semOwn] at h
    split at h
    · rename_i i s1 hi
      split at h
      · exact (idx_spec hi).2.1.trans (ih _ _ _ _ h)
      · cases h
    · cases h
  | frozen r k ih =>
    intro s a s' h
    simp only [semOwn] at h
    split at h
    · rename_i i s1 hi
      split at h
      · exact (idx_spec hi).2.1.trans (ih _ _ _ _ h)
      · cases h
    · cases h
  | getObj r k ih =>
    intro s a s' h
    simp only [semOwn] at h
    split at h
    · rename_i i s1 hi
      split at h
      · cases h
      · exact (idx_spec hi).2.1.trans (ih _ _ _ _ h)
      · cases h
    · cases h
  | setObj r o k ih =>
    intro s a s' h
    simp only [semOwn] at h
    split at h
    · rename_i i s1 hi
      split at h
      · cases h
      · exact (idx_spec hi).2.1.trans (have z := ih _ _ _ h; z)
      · cases h
    · cases h
  | choose q k ih =>
    intro s a s' h
    simp only [semOwn] at h
    split at h
    · exact ih _ _ _ _ h
    · cases h
  | freeze a n k _ => intro s a s' h; simp [semOwn] at h
  | sys c k _ => intro s a s' h; simp [semOwn] at h
  | halt h => intro s a s' h; simp [semOwn] at h

theorem Rel.cell {w w' : World} {mem : List (Option Obj)} (h : Rel w mem w') {i : Nat} {c : Array Value} {e : TypeId} {f : Nat × Nat} (hm : mem[i]? = some (some (.cells c e f))) (off : Nat) :
    w'.cell? ⟨w.heap.size + i, off, none⟩ = c[off]? := by
  simp [World.cell?, h.own i _ hm]

theorem run_store_ok {P : Program} {α : Type} (m : Mode) (x : Addr) (v : Value) (k : Sem α) (w : World) (old : Value) (hna : ∀ c, v = .agg c → False) (hnt : ∀ c, v = .tuple c → False)
    (hc : w.cell? x = some old) (hf : w.frozen? x = false) : Sem.run P (.store m x v k) w = k.run P (w.setCell x v) := by
  cases v <;> first | exact absurd rfl (hna _) | exact absurd rfl (hnt _) | simp [Sem.run, hc, hf]

theorem Rel.put {w w' : World} {mem : List (Option Obj)} (h : Rel w mem w') {i : Nat} {o' : Obj} {hp : Array Obj}
    (hs : hp.size = w'.heap.size) (hsame : ∀ b, b ≠ w.heap.size + i → hp[b]? = w'.heap[b]?) (hnew : hp[w.heap.size + i]? = some o') :
    Rel w (mem.set i (some o')) { w' with heap := hp } := by
  refine ⟨by simp [hs, h.size], ?_, ?_, h.tape, h.os, h.output⟩
  · intro j x hj
    rw [List.getElem?_set] at hj
    show hp[w.heap.size + j]? = some x
    split at hj
    · rename_i hij
      subst hij
      split at hj
      · simp only [Option.some.injEq] at hj
        subst hj
        exact hnew
      · cases hj
    · rename_i hij
      rw [hsame _ (by omega)]
      exact h.own j x hj
  · intro b hb
    show hp[b]? = w.heap[b]?
    rw [hsame b (by omega)]
    exact h.old b hb

theorem Rel.push {w w' : World} {mem : List (Option Obj)} (h : Rel w mem w') (o : Obj) : Rel w (mem ++ [some o]) { w' with heap := w'.heap.push o } := by
  refine ⟨by simp [h.size]; omega, ?_, ?_, h.tape, h.os, h.output⟩
  · intro i x hx
    show (w'.heap.push o)[w.heap.size + i]? = some x
    have hs := h.size
    rw [Array.getElem?_push]
    rw [List.getElem?_append] at hx
    split at hx
    · rename_i hi
      rw [if_neg (by omega)]
      exact h.own i x hx
    · rename_i hi
      have : i = mem.length := by
        have := (List.getElem?_eq_some_iff.1 hx).1
        simp at this
        omega
      subst this
      simp at hx
      subst hx
      rw [if_pos (by omega)]
  · intro b hb
    show (w'.heap.push o)[b]? = w.heap[b]?
    have hs := h.size
    rw [Array.getElem?_push, if_neg (by omega)]
    exact h.old b hb

theorem semOwn_run {α : Type} {w : World} (hB : w.heap.size = B) (hg : Glob glob w) :
    ∀ (t : Sem α) (s : St) (a : α) (s' : St), semOwn P glob false B t s = some (a, s') → Ok s' → ∀ w1, Rel w s.mem w1 → ∃ w2, t.run P w1 = .ok a w2 ∧ Rel w s'.mem w2 := by
  intro t
  induction t with
  | pure b =>
    intro s a s' h hk w1 hr
    simp only [semOwn, Option.some.injEq, Prod.mk.injEq] at h
    obtain ⟨rfl, rfl⟩ := h
    exact ⟨w1, rfl, hr⟩
  | program k ih => intro s a s' h hk w1 hr; exact ih P s a s' h hk w1 hr
  | mark m k ih => intro s a s' h hk w1 hr; exact ih s a s' h hk w1 hr
  | new o k ih =>
    intro s a s' h hk w1 hr
    have e : w1.heap.size = B + s.mem.length := by rw [hr.size, hB]
    show ∃ w2, (k w1.heap.size).run P { w1 with heap := w1.heap.push o } = .ok a w2 ∧ _
    rw [e]
    exact ih _ { s with mem := s.mem ++ [some o] } a s' h hk _ (hr.push o)
  | load m x k ih =>
    intro s a s' h hk w1 hr
    simp only [semOwn] at h
    split at h
    · rename_i i s1 hi
      obtain ⟨hm, hx, hb⟩ := idx_spec hi
      split at h
      · rename_i v hv
        have hk1 := (semOwn_ext _ _ _ _ h).ok hk
        have hc : w1.cell? x = some v := by
          obtain ⟨xb, xo, xs⟩ := x
          unfold cellAt at hv
          simp only at hv hb
          split at hv
          · cases hv
          · split at hv
            · rename_i j
              split at hv
              · rename_i c e f hmem
                have := hb j rfl hk1
                subst this
                rw [hm] at hmem
                rw [← hB, hr.cell hmem]
                exact hv
              · cases hv
            · split at hv
              · rename_i c hgl
                obtain ⟨hlt, hc⟩ := hg _ _ hgl
                have := hc _ _ hv
                unfold World.cell? at this ⊢
                simp only at this ⊢
                rw [hr.old _ hlt]
                exact this
              · cases hv
        have hrun : Sem.run P (.load m x k) w1 = (k v).run P w1 := by
          conv => lhs; unfold Sem.run
          rw [hc]
        rw [hrun]
        exact ih v s1 a s' h hk w1 (hm ▸ hr)
      · cases h
    · cases h
  | store m x v k ih =>
    intro s a s' h hk w1 hr
    simp only [semOwn] at h
    split at h
    · cases h
    · cases h
    · rename_i hna hnt
      split at h
      · rename_i i s1 hi
        obtain ⟨hm, hx, hb⟩ := idx_spec hi
        split at h
        · cases h
        · rename_i hspot
          split at h
          · rename_i c e lo hi' hmem
            split at h
            · rename_i old hold
              split at h
              · cases h
              · rename_i hfz
                have hk1 : Ok s1 := (have z := semOwn_ext _ _ _ _ h; show Ext s1 s' from z).ok hk
                have hbb := hb i rfl hk1
                obtain ⟨xb, xo, xs⟩ := x
                simp only at hspot hbb hold hfz
                subst hspot
                subst hbb
                rw [hm] at hmem
                have hown := hr.own i _ hmem
                rw [hB] at hown
                have hc : w1.cell? ⟨B + i, xo, none⟩ = some old := by simp [World.cell?, hown, hold]
                have hf : w1.frozen? ⟨B + i, xo, none⟩ = false := by
                  simp only [World.frozen?, hown]
                  exact hfz
                rw [run_store_ok (P := P) m _ v k w1 old hna hnt hc hf]
                refine ih _ a s' h hk _ ?_
                show Rel w (s1.mem.set i _) (w1.setCell ⟨B + i, xo, none⟩ v)
                rw [hm]
                refine hr.put (by simp) ?_ ?_
                · intro b hbne
                  rw [Array.getElem?_modify, if_neg (show ¬ (B + i = b) by omega)]
                · rw [hB, Array.getElem?_modify, if_pos (show B + i = B + i from rfl), hown]
                  simp
            · cases h
          · cases h
      · cases h
  | shape r k ih =>
    intro s a s' h hk w1 hr
    simp only [semOwn] at h
    split at h
    · rename_i i s1 hi
      obtain ⟨hm, hx, hb⟩ := idx_spec hi
      split at h
      · rename_i c e f hmem
        have hk1 := (semOwn_ext _ _ _ _ h).ok hk
        have hbb := hb i rfl hk1
        subst hbb
        rw [hm] at hmem
        have hown := hr.own i _ hmem
        rw [hB] at hown
        have : w1.shape? (B + i) = some (e, c.size) := by simp [World.shape?, hown]
        show ∃ w2, (k (w1.shape? (B + i))).run P w1 = .ok a w2 ∧ _
        rw [this]
        exact ih _ s1 a s' h hk w1 (hm ▸ hr)
      · cases h
    · cases h
  | frozen x k ih =>
    intro s a s' h hk w1 hr
    simp only [semOwn] at h
    split at h
    · rename_i i s1 hi
      obtain ⟨hm, hx, hb⟩ := idx_spec hi
      split at h
      · rename_i c e lo hi' hmem
        have hk1 := (semOwn_ext _ _ _ _ h).ok hk
        have hbb := hb i rfl hk1
        rw [hm] at hmem
        have hown := hr.own i _ hmem
        rw [hB, ← hbb] at hown
        have : w1.frozen? x = (decide (lo ≤ x.off) && decide (x.off < hi')) := by simp [World.frozen?, hown]
        show ∃ w2, (k (w1.frozen? x)).run P w1 = .ok a w2 ∧ _
        rw [this]
        exact ih _ s1 a s' h hk w1 (hm ▸ hr)
      · cases h
    · cases h
  | getObj r k ih =>
    intro s a s' h hk w1 hr
    simp only [semOwn] at h
    split at h
    · rename_i i s1 hi
      obtain ⟨hm, hx, hb⟩ := idx_spec hi
      split at h
      · cases h
      · rename_i o hne hmem
        have hk1 := (semOwn_ext _ _ _ _ h).ok hk
        have hbb := hb i rfl hk1
        subst hbb
        rw [hm] at hmem
        have hown := hr.own i _ hmem
        rw [hB] at hown
        have hrun : Sem.run P (.getObj (B + i) k) w1 = (k o).run P w1 := by
          conv => lhs; unfold Sem.run
          rw [hown]
          cases o <;> first | exact absurd rfl (hne _ _ _) | rfl
        rw [hrun]
        exact ih _ s1 a s' h hk w1 (hm ▸ hr)
      · cases h
    · cases h
  | setObj r o k ih =>
    intro s a s' h hk w1 hr
    simp only [semOwn] at h
    split at h
    · rename_i i s1 hi
      obtain ⟨hm, hx, hb⟩ := idx_spec hi
      split at h
      · cases h
      · rename_i o0 hne hmem
        have hk1 : Ok s1 := (have z := semOwn_ext _ _ _ _ h; show Ext s1 s' from z).ok hk
        have hbb := hb i rfl hk1
        subst hbb
        rw [hm] at hmem
        have hown := hr.own i _ hmem
        rw [hB] at hown
        have hlt : B + i < w1.heap.size := (Array.getElem?_eq_some_iff.1 hown).1
        have hrun : Sem.run P (.setObj (B + i) o k) w1 = k.run P { w1 with heap := w1.heap.setIfInBounds (B + i) o } := by
          conv => lhs; unfold Sem.run
          rw [hown]
          cases o0 <;> first | exact absurd rfl (hne _ _ _) | rfl
        rw [hrun]
        refine ih _ a s' h hk _ ?_
        show Rel w (s1.mem.set i _) _
        rw [hm]
        refine hr.put (by simp) ?_ ?_
        · intro b hbne
          rw [Array.getElem?_setIfInBounds_ne (by omega)]
        · rw [hB, Array.getElem?_setIfInBounds_self_of_lt hlt]
      · cases h
    · cases h
  | choose q k ih =>
    intro s a s' h hk w1 hr
    simp only [semOwn] at h
    split at h
    · rename_i hq
      have hrun : Sem.run P (.choose q k) w1 = (k 0).run P w1 := by
        conv => lhs; unfold Sem.run
        rw [if_pos hq]
      rw [hrun]
      exact ih _ s a s' h hk w1 hr
    · cases h
  | freeze a n k _ => intro s a s' h; simp [semOwn] at h
  | sys c k _ => intro s a s' h; simp [semOwn] at h
  | halt h => intro s a s' h; simp [semOwn] at h

theorem semRead_ext {α : Type} : ∀ (t : Sem α) (s : St) (a : α) (s' : St), semRead P glob false B t s = some (a, s') → Ext s s' ∧ s'.mem = s.mem := by
  intro t
  induction t with
  | pure b => intro s a s' h; simp only [semRead, Option.some.injEq, Prod.mk.injEq] at h; obtain ⟨_, rfl⟩ := h; exact ⟨.refl _, rfl⟩
  | program k ih => intro s a s' h; exact ih P s a s' h
  | mark m k ih => intro s a s' h; exact ih s a s' h
  | load m x k ih =>
    intro s a s' h
    simp only [semRead] at h
    split at h
    · rename_i i s1 hi
      split at h
      · have z := ih _ _ _ _ h
        exact ⟨(idx_spec hi).2.1.trans z.1, z.2.trans (idx_spec hi).1⟩
      · cases h
    · cases h
  | store m x v k _ => intro s a s' h; simp [semRead] at h
  | new o k _ => intro s a s' h; simp [semRead] at h
  | shape r k _ => intro s a s' h; simp [semRead] at h
  | frozen r k _ => intro s a s' h; simp [semRead] at h
  | getObj r k _ => intro s a s' h; simp [semRead] at h
  | setObj r o k _ => intro s a s' h; simp [semRead] at h
  | choose q k _ => intro s a s' h; simp [semRead] at h
  | freeze a n k _ => intro s a s' h; simp [semRead] at h
  | sys c k _ => intro s a s' h; simp [semRead] at h
  | halt h => intro s a s' h; simp [semRead] at h

theorem cellAt_spec {w w1 : World} (hB : w.heap.size = B) (hg : Glob glob w) {s s1 : St} {i : Option Nat} {x : Addr} {v : Value} (hr : Rel w s.mem w1)
    (hi : idx false B x.block s = some (i, s1)) (hv : cellAt glob s1 i x = some v) (hk1 : Ok s1) : w1.cell? x = some v := by
  obtain ⟨hm, hx, hb⟩ := idx_spec hi
  obtain ⟨xb, xo, xs⟩ := x
  unfold cellAt at hv
  simp only at hv hb
  split at hv
  · cases hv
  · split at hv
    · rename_i j
      split at hv
      · rename_i c e f hmem
        have := hb j rfl hk1
        subst this
        rw [hm] at hmem
        rw [← hB, hr.cell hmem]
        exact hv
      · cases hv
    · split at hv
      · rename_i c hgl
        obtain ⟨hlt, hc⟩ := hg _ _ hgl
        have := hc _ _ hv
        unfold World.cell? at this ⊢
        simp only at this ⊢
        rw [hr.old _ hlt]
        exact this
      · cases hv

theorem semRead_run {α : Type} {w : World} (hB : w.heap.size = B) (hg : Glob glob w) :
    ∀ (t : Sem α) (s : St) (a : α) (s' : St), semRead P glob false B t s = some (a, s') → Ok s' → ∀ w1, Rel w s.mem w1 → t.run P w1 = .ok a w1 := by
  intro t
  induction t with
  | pure b =>
    intro s a s' h hk w1 hr
    simp only [semRead, Option.some.injEq, Prod.mk.injEq] at h
    obtain ⟨rfl, rfl⟩ := h
    rfl
  | program k ih => intro s a s' h hk w1 hr; exact ih P s a s' h hk w1 hr
  | mark m k ih => intro s a s' h hk w1 hr; exact ih s a s' h hk w1 hr
  | load m x k ih =>
    intro s a s' h hk w1 hr
    simp only [semRead] at h
    split at h
    · rename_i i s1 hi
      split at h
      · rename_i v hv
        have hk1 := (semRead_ext _ _ _ _ h).1.ok hk
        have hc := cellAt_spec hB hg hr hi hv hk1
        have hrun : Sem.run P (.load m x k) w1 = (k v).run P w1 := by
          conv => lhs; unfold Sem.run
          rw [hc]
        rw [hrun]
        exact ih v s1 a s' h hk w1 ((idx_spec hi).1 ▸ hr)
      · cases h
    · cases h
  | store m x v k _ => intro s a s' h; simp [semRead] at h
  | new o k _ => intro s a s' h; simp [semRead] at h
  | shape r k _ => intro s a s' h; simp [semRead] at h
  | frozen r k _ => intro s a s' h; simp [semRead] at h
  | getObj r k _ => intro s a s' h; simp [semRead] at h
  | setObj r o k _ => intro s a s' h; simp [semRead] at h
  | choose q k _ => intro s a s' h; simp [semRead] at h
  | freeze a n k _ => intro s a s' h; simp [semRead] at h
  | sys c k _ => intro s a s' h; simp [semRead] at h
  | halt h => intro s a s' h; simp [semRead] at h

def GoodAt (P : Program) (w : World) (call : FuncId → Array Value → St → Option (Value × St)) : Prop :=
  ∀ f args s v s', call f args s = some (v, s') → Ext s s' ∧ (Ok s' → ∀ w1, Rel w s.mem w1 → Calls P f args w1 fun e w2 => e = .returned v ∧ Rel w s'.mem w2)

theorem opsOwn_ext {call : FuncId → Array Value → St → Option (Value × St)} {all : Array Oper} {w : World} (hc : GoodAt P w call) :
    ∀ (l : List Oper) (a a' : Act) (s s' : St), opsOwn P glob false B call all l a s = some (a', s') → Ext s s'
  | [], a, a', s, s', h => by
    simp only [opsOwn, Option.some.injEq, Prod.mk.injEq] at h
    obtain ⟨_, rfl⟩ := h
    exact .refl _
  | o :: rest, a, a', s, s', h => by
    unfold opsOwn at h
    split at h
    · split at h
      · rename_i hv
        exact (semOwn_ext _ _ _ _ hv).trans (opsOwn_ext hc rest _ _ _ _ h)
      · rename_i hv
        exact (semOwn_ext _ _ _ _ hv).trans (opsOwn_ext hc rest _ _ _ _ h)
      · rename_i hv
        split at h
        · rename_i hcall
          exact (semOwn_ext _ _ _ _ hv).trans ((hc _ _ _ _ _ hcall).1.trans (opsOwn_ext hc rest _ _ _ _ h))
        · cases h
      · cases h
    · exact opsOwn_ext hc rest _ _ _ _ h

theorem opsOwn_wp {call : FuncId → Array Value → St → Option (Value × St)} {all : Array Oper} {w : World} (hB : w.heap.size = B) (hg : Glob glob w) (hc : GoodAt P w call) :
    ∀ (l : List Oper) (a a' : Act) (s s' : St), opsOwn P glob false B call all l a s = some (a', s') → Ok s' →
      ∀ (Q : Exit → Act → World → Prop) (w1 : World), Rel w s.mem w1 → (∀ w2, Rel w s'.mem w2 → Q .normal a' w2) → wpList P all Q l a w1
  | [], a, a', s, s', h, _, Q, w1, hr, hq => by
    simp only [opsOwn, Option.some.injEq, Prod.mk.injEq] at h
    obtain ⟨rfl, rfl⟩ := h
    exact hq w1 hr
  | o :: rest, a, a', s, s', h, hk, Q, w1, hr, hq => by
    unfold opsOwn at h
    unfold wpList
    split at h
    · rename_i hw
      rw [if_pos hw]
      left
      unfold Oper.wp
      split at h
      · rename_i v s1 hv
        have hk1 := (opsOwn_ext hc rest _ _ _ _ h).ok hk
        obtain ⟨w2, hrun, hr2⟩ := semOwn_run hB hg _ _ _ _ hv hk1 w1 hr
        rw [hrun]
        exact opsOwn_wp hB hg hc rest _ _ _ _ h hk Q w2 hr2 hq
      · rename_i s1 hv
        have hk1 := (opsOwn_ext hc rest _ _ _ _ h).ok hk
        obtain ⟨w2, hrun, hr2⟩ := semOwn_run hB hg _ _ _ _ hv hk1 w1 hr
        rw [hrun]
        exact opsOwn_wp hB hg hc rest _ _ _ _ h hk Q w2 hr2 hq
      · rename_i f args s1 hv
        split at h
        · rename_i v s2 hcall
          have hk2 := (opsOwn_ext hc rest _ _ _ _ h).ok hk
          obtain ⟨he, hcs⟩ := hc _ _ _ _ _ hcall
          obtain ⟨w2, hrun, hr2⟩ := semOwn_run hB hg _ _ _ _ hv (he.ok hk2) w1 hr
          rw [hrun, Oper.upon_enter]
          refine (hcs hk2 w2 hr2).mono ?_
          rintro e w3 ⟨rfl, hr3⟩
          exact opsOwn_wp hB hg hc rest _ _ _ _ h hk Q w3 hr3 hq
        · cases h
      · cases h
    · rename_i hw
      rw [if_neg hw]
      exact opsOwn_wp hB hg hc rest _ _ _ _ h hk Q w1 hr hq

theorem codeOwn_ext {call : FuncId → Array Value → St → Option (Value × St)} {w : World} (hc : GoodAt P w call) :
    ∀ (n : Nat) (c : Code) (a a' : Act) (e : PExit) (s s' : St), codeOwn P glob false B call n c a s = some (e, a', s') → Ext s s' := by
  intro n
  induction n with
  | zero => intro c a a' e s s' h; simp [codeOwn] at h
  | succ n ih =>
    intro c a a' e s s' h
    cases c with
    | skip =>
      simp only [codeOwn, Option.some.injEq, Prod.mk.injEq] at h
      obtain ⟨_, _, rfl⟩ := h
      exact .refl _
    | label l =>
      simp only [codeOwn, Option.some.injEq, Prod.mk.injEq] at h
      obtain ⟨_, _, rfl⟩ := h
      exact .refl _
    | region id ops draw =>
      simp only [codeOwn] at h
      cases draw with
      | true => simp at h
      | false =>
        simp only at h
        split at h
        · rename_i h1
          simp only [Option.some.injEq, Prod.mk.injEq] at h
          obtain ⟨_, _, rfl⟩ := h
          exact opsOwn_ext hc _ _ _ _ _ h1
        · cases h
    | seq x y =>
      simp only [codeOwn] at h
      split at h
      · rename_i h1
        exact (ih _ _ _ _ _ _ h1).trans (ih _ _ _ _ _ _ h)
      · exact ih _ _ _ _ _ _ h
    | cond c x y =>
      simp only [codeOwn] at h
      split at h
      · exact ih _ _ _ _ _ _ h
      · cases h
    | block id x =>
      simp only [codeOwn] at h
      split at h
      · rename_i h1
        split at h
        · simp only [Option.some.injEq, Prod.mk.injEq] at h
          obtain ⟨_, _, rfl⟩ := h
          exact ih _ _ _ _ _ _ h1
        · simp only [Option.some.injEq, Prod.mk.injEq] at h
          obtain ⟨_, _, rfl⟩ := h
          exact ih _ _ _ _ _ _ h1
      · exact ih _ _ _ _ _ _ h
    | loop x =>
      simp only [codeOwn] at h
      split at h
      · rename_i h1
        exact (ih _ _ _ _ _ _ h1).trans (ih _ _ _ _ _ _ h)
      · exact ih _ _ _ _ _ _ h
    | exit id =>
      simp only [codeOwn, Option.some.injEq, Prod.mk.injEq] at h
      obtain ⟨_, _, rfl⟩ := h
      exact .refl _
    | ret =>
      simp only [codeOwn, Option.some.injEq, Prod.mk.injEq] at h
      obtain ⟨_, _, rfl⟩ := h
      exact .refl _
    | rangeFunc f p s b => simp [codeOwn] at h
    | scope b => simp [codeOwn] at h
    | goto l => simp [codeOwn] at h
    | refuse y => simp [codeOwn] at h

theorem codeOwn_wp {call : FuncId → Array Value → St → Option (Value × St)} {w : World} (hB : w.heap.size = B) (hg : Glob glob w) (hc : GoodAt P w call) :
    ∀ (n : Nat), (∀ (c : Code) (a a' : Act) (e : PExit) (s s' : St), codeOwn P glob false B call n c a s = some (e, a', s') → Ok s' →
        ∀ (Q : Exit → Act → World → Prop) (w1 : World), Rel w s.mem w1 → (∀ w2, Rel w s'.mem w2 → Q e.up a' w2) → c.wp P Q a w1) ∧
      (∀ (x : Code) (a a' : Act) (e : PExit) (s s' : St), codeOwn P glob false B call n (.loop x) a s = some (e, a', s') → Ok s' →
        ∀ (Q : Exit → Act → World → Prop) (w1 : World), Rel w s.mem w1 → (∀ w2, Rel w s'.mem w2 → Q e.up a' w2) → Code.rounds P x Q n a w1) := by
  intro n
  induction n with
  | zero => exact ⟨fun c a a' e s s' h => by simp [codeOwn] at h, fun x a a' e s s' h => by simp [codeOwn] at h⟩
  | succ n ih =>
    obtain ⟨ihc, ihl⟩ := ih
    have hloop : ∀ (x : Code) (a a' : Act) (e : PExit) (s s' : St), codeOwn P glob false B call (n + 1) (.loop x) a s = some (e, a', s') → Ok s' →
        ∀ (Q : Exit → Act → World → Prop) (w1 : World), Rel w s.mem w1 → (∀ w2, Rel w s'.mem w2 → Q e.up a' w2) → Code.rounds P x Q (n + 1) a w1 := by
      intro x a a' e s s' h hk Q w1 hr hq
      rw [rounds_succ]
      simp only [codeOwn] at h
      split at h
      · rename_i a1 s1 h1
        exact ihc x a a1 .normal s s1 h1 ((codeOwn_ext hc _ _ _ _ _ _ _ h).ok hk) _ w1 hr fun w2 hr2 => ihl x a1 a' e s1 s' h hk Q w2 hr2 hq
      · rename_i hne
        refine ihc x a a' e s s' h hk _ w1 hr fun w2 hr2 => ?_
        cases e with
        | normal => exact absurd h (hne a' s')
        | exit id => exact hq w2 hr2
        | ret => exact hq w2 hr2
    refine ⟨?_, hloop⟩
    intro c a a' e s s' h hk Q w1 hr hq
    cases c with
    | skip =>
      simp only [codeOwn, Option.some.injEq, Prod.mk.injEq] at h
      obtain ⟨rfl, rfl, rfl⟩ := h
      exact wp_skip (hq w1 hr)
    | label l =>
      simp only [codeOwn, Option.some.injEq, Prod.mk.injEq] at h
      obtain ⟨rfl, rfl, rfl⟩ := h
      exact wp_label (hq w1 hr)
    | region id ops draw =>
      simp only [codeOwn] at h
      cases draw with
      | true => simp at h
      | false =>
        simp only at h
        split at h
        · rename_i a1 s1 h1
          simp only [Option.some.injEq, Prod.mk.injEq] at h
          obtain ⟨rfl, rfl, rfl⟩ := h
          exact wp_region_list (opsOwn_wp hB hg hc _ _ _ _ _ h1 hk Q w1 hr hq)
        · cases h
    | seq x y =>
      simp only [codeOwn] at h
      split at h
      · rename_i a1 s1 h1
        exact wp_seq (ihc x a a1 .normal s s1 h1 ((codeOwn_ext hc _ _ _ _ _ _ _ h).ok hk) _ w1 hr fun w2 hr2 => ihc y a1 a' e s1 s' h hk Q w2 hr2 hq)
      · rename_i hne
        refine wp_seq (ihc x a a' e s s' h hk _ w1 hr fun w2 hr2 => ?_)
        cases e with
        | normal => exact absurd h (hne a' s')
        | exit id => exact hq w2 hr2
        | ret => exact hq w2 hr2
    | cond c x y =>
      simp only [codeOwn] at h
      split at h
      · rename_i b hb
        exact wp_cond hb (ihc _ a a' e s s' h hk Q w1 hr hq)
      · cases h
    | block id x =>
      simp only [codeOwn] at h
      split at h
      · rename_i j a1 s1 h1
        split at h
        · rename_i hj
          simp only [Option.some.injEq, Prod.mk.injEq] at h
          obtain ⟨rfl, rfl, rfl⟩ := h
          refine wp_block (ihc x a a1 (.exit j) s s1 h1 hk _ w1 hr fun w2 hr2 => ?_)
          show Exit.inBlock id Q (.exit j) a1 w2
          simp only [Exit.inBlock, hj, if_true]
          exact hq w2 hr2
        · rename_i hj
          simp only [Option.some.injEq, Prod.mk.injEq] at h
          obtain ⟨rfl, rfl, rfl⟩ := h
          refine wp_block (ihc x a a1 (.exit j) s s1 h1 hk _ w1 hr fun w2 hr2 => ?_)
          show Exit.inBlock id Q (.exit j) a1 w2
          simp only [Exit.inBlock, hj, if_false]
          exact hq w2 hr2
      · rename_i hne
        refine wp_block (ihc x a a' e s s' h hk _ w1 hr fun w2 hr2 => ?_)
        cases e with
        | normal => exact hq w2 hr2
        | exit id' => exact absurd h (hne id' a' s')
        | ret => exact hq w2 hr2
    | loop x => exact wp_loop_rounds (n + 1) (hloop x a a' e s s' h hk Q w1 hr hq)
    | exit id =>
      simp only [codeOwn, Option.some.injEq, Prod.mk.injEq] at h
      obtain ⟨rfl, rfl, rfl⟩ := h
      exact wp_exit (hq w1 hr)
    | ret =>
      simp only [codeOwn, Option.some.injEq, Prod.mk.injEq] at h
      obtain ⟨rfl, rfl, rfl⟩ := h
      exact wp_ret (hq w1 hr)
    | rangeFunc f p s b => simp [codeOwn] at h
    | scope b => simp [codeOwn] at h
    | goto l => simp [codeOwn] at h
    | refuse y => simp [codeOwn] at h

/-- What 'spec' says of a call is so, wherever it is made; the blocks that it lays are counted, their content is told or not. -/
def SpecOk (P : Program) (w : World) (spec : FuncId → Array Value → Option (Value × List (Option Obj))) : Prop :=
  ∀ f args v l, spec f args = some (v, l) → ∀ mem w1, Rel w mem w1 → Calls P f args w1 fun e w2 => e = .returned v ∧ Rel w (mem ++ l) w2

theorem callOwn_good {spec : FuncId → Array Value → Option (Value × List (Option Obj))} {n : Nat} {w : World} (hB : w.heap.size = B) (hg : Glob glob w) (hsp : SpecOk P w spec) :
    ∀ d, GoodAt P w (callOwn P glob false B spec n d)
  | 0 => fun f args s v s' h => by simp [callOwn] at h
  | d + 1 => fun f args s v s' h => by
    have hc := callOwn_good (n := n) hB hg hsp d
    simp only [callOwn] at h
    split at h
    · rename_i v1 l hs
      simp only [Option.some.injEq, Prod.mk.injEq] at h
      obtain ⟨rfl, rfl⟩ := h
      exact ⟨⟨[], rfl⟩, fun _ w1 hr => hsp _ _ _ _ hs _ w1 hr⟩
    · split at h
      · rename_i fn hf
        split at h
        · rename_i c hb
          split at h
          · rename_i a1 s1 h1
            split at h
            · rename_i hd
              obtain ⟨hx, hm⟩ := semRead_ext _ _ _ _ h
              refine ⟨(codeOwn_ext hc _ _ _ _ _ _ _ h1).trans hx, fun hk w1 hr => ?_⟩
              refine calls_of_wp hf hb (((codeOwn_wp hB hg hc n).1 c _ _ _ _ _ h1 (hx.ok hk)) _ w1 hr fun w2 hr2 => ?_)
              exact ⟨hd, v, semRead_run hB hg _ _ _ _ h hk w2 hr2, rfl, hm ▸ hr2⟩
            · cases h
          · rename_i a1 s1 h1
            split at h
            · rename_i hd
              obtain ⟨hx, hm⟩ := semRead_ext _ _ _ _ h
              refine ⟨(codeOwn_ext hc _ _ _ _ _ _ _ h1).trans hx, fun hk w1 hr => ?_⟩
              refine calls_of_wp hf hb (((codeOwn_wp hB hg hc n).1 c _ _ _ _ _ h1 (hx.ok hk)) _ w1 hr fun w2 hr2 => ?_)
              exact ⟨hd, v, semRead_run hB hg _ _ _ _ h hk w2 hr2, rfl, hm ▸ hr2⟩
            · cases h
          · cases h
        · cases h
      · cases h

/-- THE CALL: first at a fixed base (which own block each address names), then at the open one. -/
def run (P : Program) (glob : Nat → Option (Array Value)) (spec : FuncId → Array Value → Option (Value × List (Option Obj))) (n d : Nat) (B : Nat) (f : FuncId) (args : Array Value) : Option (Value × St) :=
  match callOwn P glob true 1000000 spec n d f args ⟨[], [], []⟩ with
  | some (_, s) => callOwn P glob false B spec n d f args ⟨[], s.tr.reverse, []⟩
  | none => none

theorem ok_of_maps {s : St} (h : s.ob.map (·.1) = s.ob.map (·.2)) : Ok s := by
  intro p hp
  obtain ⟨i, hi, rfl⟩ := List.mem_iff_getElem.1 hp
  have := congrArg (fun l => l[i]?) h
  simpa [hi] using this

/-- The kernel's one comparison: value, obligations and memory. -/
theorem calls_own {spec : FuncId → Array Value → Option (Value × List (Option Obj))} {n d : Nat} {w : World} (hg : Glob glob w) (hsp : SpecOk P w spec) {f : FuncId} {args : Array Value} {v : Value} {m : List (Option Obj)}
    (h : (run P glob spec n d w.heap.size f args).map (fun r => (r.1, r.2.mem, r.2.ob.map (·.1))) = (run P glob spec n d w.heap.size f args).map (fun r => (v, m, r.2.ob.map (·.2))))
    (hs : (run P glob spec n d w.heap.size f args).isSome = true) : Calls P f args w fun e w' => e = .returned v ∧ Rel w m w' := by
  cases hr : run P glob spec n d w.heap.size f args with
  | none => rw [hr] at hs; cases hs
  | some r =>
    obtain ⟨v', s'⟩ := r
    rw [hr] at h
    simp only [Option.map_some, Option.some.injEq, Prod.mk.injEq] at h
    obtain ⟨rfl, rfl, hob⟩ := h
    unfold run at hr
    split at hr
    · exact ((callOwn_good (B := w.heap.size) (n := n) rfl hg hsp d) _ _ _ _ _ hr).2 (ok_of_maps hob) w (Rel.refl w)
    · cases hr

theorem calls_own_v {spec : FuncId → Array Value → Option (Value × List (Option Obj))} {n d : Nat} {w : World} (hg : Glob glob w) (hsp : SpecOk P w spec) {f : FuncId} {args : Array Value} {v : Value}
    (h : (run P glob spec n d w.heap.size f args).map (fun r => (r.1, r.2.ob.map (·.1))) = (run P glob spec n d w.heap.size f args).map (fun r => (v, r.2.ob.map (·.2))))
    (hs : (run P glob spec n d w.heap.size f args).isSome = true) : Calls P f args w fun e w' => e = .returned v ∧ ∃ m, Rel w m w' := by
  cases hr : run P glob spec n d w.heap.size f args with
  | none => rw [hr] at hs; cases hs
  | some r =>
    obtain ⟨v', s'⟩ := r
    rw [hr] at h
    simp only [Option.map_some, Option.some.injEq, Prod.mk.injEq] at h
    obtain ⟨rfl, hob⟩ := h
    unfold run at hr
    split at hr
    · exact (((callOwn_good (B := w.heap.size) (n := n) rfl hg hsp d) _ _ _ _ _ hr).2 (ok_of_maps hob) w (Rel.refl w)).mono fun e w' ⟨h1, h2⟩ => ⟨h1, _, h2⟩
    · cases hr
end
end Go.Proofs.YtnllfppkfdnjpabDoor.Own
