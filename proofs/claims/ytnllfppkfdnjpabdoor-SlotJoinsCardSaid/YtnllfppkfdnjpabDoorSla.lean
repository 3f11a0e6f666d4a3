/- slot.steps: the iterator over the instructions of some bytes; slot.All. -/
import Derived.RangeFuncNested
import Derived.RangeFuncBox
import Derived.RangeFuncBound
import Derived.RangeFuncCalls
import Derived.RangeFuncLeaves
import Derived.Shelf.Abstract
import Derived.WalkKit
import Derived.OwnWalkIn
import Derived.TacticsInMore
import Derived.LoopNIn
import Derived.LoopIn
import Derived.Maps.AppendAt
import Derived.Maps.OwnIn
import Derived.Deep.QuietTactic
import Derived.BigQuiet
import Derived.WalkSmall
import Derived.Test.YtnllfppkfdnjpabDoorRfb
import Derived.Test.YtnllfppkfdnjpabDoorKx10
namespace Go.Proofs.YtnllfppkfdnjpabDoor.Q
open Go Go.RowKit Go.Shelf Go.Proofs.YtnllfppkfdnjpabDoor.Ops Go.Proofs.YtnllfppkfdnjpabDoorW.PrintWords
attribute [local go_sem] Oper.semAt_some

/-- What Decode returns: the instruction, its slots, the error. -/
abbrev Dt := Int × Bool × Int × Int × Int × Int × Int × Int
def Dt.n (t : Dt) : Int := t.2.2.2.2.2.2.1
def Dt.e (t : Dt) : Int := t.2.2.2.2.2.2.2
def Dt.x (t : Dt) : S23 := ⟨t.1, t.2.1, t.2.2.1, t.2.2.2.1, t.2.2.2.2.1, t.2.2.2.2.2.1⟩
def Dt.cells (t : Dt) : Array Value := #[.int .i64 t.1, .bool t.2.1, .int .i64 t.2.2.1, .int .i64 t.2.2.2.1, .int .i64 t.2.2.2.2.1, .int .i64 t.2.2.2.2.2.1, .int .i64 t.2.2.2.2.2.2.1, .int .i64 t.2.2.2.2.2.2.2]
/-- What the iterator yields: up to the end or the first error. -/
def trace : Nat → List Int → Option (List Dt)
  | 0, _ => none
  | k + 1, b => if b.length = 0 then some [] else (slot_Decode.f 50 b).bind fun (t : Dt) => if t.e = 0 then (if 0 < t.n ∧ 8 * t.n ≤ b.length then (trace k (b.drop (8 * t.n).toNat)).map (t :: ·) else none) else some [t]
/-- The body keeps what lay below n₀, and the iterator's box. -/
def KeptBox (n₀ B : Nat) (W W' : World) : Prop := Below n₀ W W' ∧ (B < W.heap.size → W'.heap[B]? = W.heap[B]?)
theorem below_grownBy' {W W' : World} (h : Below W.heap.size W W') : W.grownBy W' none := ⟨h.os, h.tape, h.output, h.size, fun k hk _ => h.block k hk⟩
theorem abides_below' {β : Type} {B : Nat} {J : β → World → Prop} (hJ : AbidesFrom B J) {s : β} {W W' : World} (hs : J s W) (h : Below W.heap.size W W') : J s W' :=
  hJ s W W' none hs (below_grownBy' h) (fun r e => by cases e)

set_option maxRecDepth 100000 in
set_option maxHeartbeats 2000000 in
theorem steps1_in (l Bs n₀ : Nat) (A : Option Addr) (c0 : Nat) (xs : List Int) (ts : List Dt) (k0 : Nat) (htr : trace k0 xs = some ts) (J Jx : List Dt → World → Prop) (hJb : Blind Bs J)
    (hY : ∀ pre x W, J pre W → pre.length < ts.length → YieldAt Fence.wide 7 Tryd.prog l #[.agg x.cells] W fun e W' =>
      (e = .returned (.bool true) ∧ J (pre ++ [x]) W' ∧ KeptBox n₀ Bs W W') ∨ (e = .returned (.bool false) ∧ Jx (pre ++ [x]) W'))
    (W : World) (hJ : AbidesFrom W.heap.size J) (hn₀ : n₀ ≤ Bs) (hBs : Boxed W Bs 44 (.slice A xs.length c0)) (hc : xs.length ≤ c0) (hC : ∀ W', Below n₀ W W' → Kd.C (Kd.int .u8) W' A xs.length xs) (hG : ∀ W', Below n₀ W W' → GG W') (h0 : J [] W) :
    CallsIn Fence.wide 8 Tryd.prog 87 #[.func (.yield l) #[] #[], .pointer (some ⟨Bs, 0, none⟩)] W fun e W' => (∃ v, e = .returned v) ∧
      ((∃ ys, ys = ts ∧ J ys W') ∨ (∃ pre, (∃ j, j < ts.length ∧ pre = ts.take (j + 1)) ∧ Jx pre W')) := by
  have hBl := hBs.lt
  refine callsIn_of_wp Tryd.func87 rfl trivial ?_ rfl
  simp only [Tryd.ntmps87, List.size_toArray, List.length_cons, List.length_nil, Nat.reduceAdd, Nat.reduceSub, Array.replicate_succ, Array.replicate_zero, List.push_toArray, List.append_toArray, List.nil_append, List.cons_append]
  gi_wp2
  gi_loopw [] (fun wr => ∃ (pre suf : List Dt) (cur : List Int) (A' : Option Addr) (c' k' : Nat), ts = pre ++ suf ∧ trace k' cur = some suf ∧ J pre wr ∧ Below n₀ W wr ∧ Boxed wr Bs 44 (.slice A' cur.length c') ∧ cur.length ≤ c' ∧ (∀ W', Below n₀ W W' → Kd.C (Kd.int .u8) W' A' cur.length cur))
    (fun wr => match wr.cell? ⟨Bs, 0, none⟩ with | some (.slice _ m _) => m | _ => 0)
  case atStart => exact ⟨[], ts, xs, A, c0, k0, rfl, htr, h0, Below.refl _ _, hBs, hc, hC⟩
  case round =>
    obtain ⟨pre, suf, cur, A', c', k', hts, htc, hJs, hnx, hbx, hcc, hCC⟩ := hrel
    have hcell := hbx.cell
    cases k' with
    | zero => simp [trace] at htc
    | succ k' =>
    rw [trace] at htc
    by_cases hlen : cur.length = 0
    · rw [if_pos hlen] at htc
      obtain rfl := List.eq_nil_of_length_eq_zero hlen
      clear hlen
      obtain rfl := Option.some.inj htc
      clear htc
      simp only [List.length_nil] at hcell
      gi_wp2
      go_end0
      exact ⟨⟨_, rfl⟩, .inl ⟨_, by rw [hts, List.append_nil], hJs⟩⟩
    · rw [if_neg hlen] at htc
      obtain ⟨⟨t1, t2, t3, t4, t5, t6, t7, t8⟩, ht, htc⟩ := Option.bind_eq_some_iff.1 htc
      replace htc : (if t8 = 0 then (if 0 < t7 ∧ 8 * t7 ≤ cur.length then (trace k' (cur.drop (8 * t7).toNat)).map (fun x => ((t1, t2, t3, t4, t5, t6, t7, t8) : Dt) :: x) else none) else some [(t1, t2, t3, t4, t5, t6, t7, t8)]) = some suf := htc
      have hpos : 0 < cur.length := by omega
      gi_wp2
      refine ⟨trivial, (callsIn_wide.2 (slot_Decode.calls 50 A' c' cur t1 t2 t3 t4 t5 t6 t7 t8 _ (hCC _ hnx) hcc ht (hG _ hnx))).mono ?_⟩
      rintro e w2 ⟨rfl, hB2⟩
      have hnx2 : Below n₀ W w2 := hnx.trans (hB2.mono (by have := hnx.size; omega))
      have hbx2 : Boxed w2 Bs 44 (.slice A' cur.length c') := (hB2.block Bs hbx.lt).trans hbx
      have hcell2 := hbx2.cell
      clear hcell
      have hB3 : Below wr.heap.size wr (w2.alloc (.cells #[.int .i64 t1, .bool t2, .int .i64 t3, .int .i64 t4, .int .i64 t5, .int .i64 t6] 23)) := hB2.alloc hB2.size _
      have hJ3 := abides_below' (fun s X Y row hs hg hr => hJ s X Y row hs hg (fun r e => by obtain ⟨h1, h2⟩ := hr r e; exact ⟨Nat.le_trans hnx.size h1, h2⟩)) hJs hB3
      have hnx3 := hnx.trans (hB3.mono (by have := hnx.size; omega))
      have hbx3 : Boxed _ Bs 44 (.slice A' cur.length c') := hbx2.alloc (.cells #[.int .i64 t1, .bool t2, .int .i64 t3, .int .i64 t4, .int .i64 t5, .int .i64 t6] 23)
      obtain ⟨suf', hsuf⟩ : ∃ suf', suf = (t1, t2, t3, t4, t5, t6, t7, t8) :: suf' := by
        split at htc
        · split at htc
          · obtain ⟨s, _, rfl⟩ := Option.map_eq_some_iff.1 htc
            exact ⟨s, rfl⟩
          · cases htc
        · exact ⟨[], (Option.some.inj htc).symm⟩
      have hlt : pre.length < ts.length := by rw [hts, hsuf]; simp
      obtain ⟨fn, tmps, assign, body, hy, hR⟩ := hY pre (t1, t2, t3, t4, t5, t6, t7, t8) _ hJ3 hlt
      simp only [Dt.cells] at hy
      gi_wp2
      refine hR.mono ?_
      rintro e W4 (⟨rfl, hJ4, hk4, hkb⟩ | ⟨rfl, hJx4⟩)
      · have hbx4 : Boxed W4 Bs 44 (.slice A' cur.length c') := (hkb hbx3.lt).trans hbx3
        have hcell4 := hbx4.cell
        have hfr4 := hbx4.frozen
        have hnx4 := hnx3.trans hk4
        clear hcell2 hy hR
        by_cases he : t8 = 0
        · subst he
          rw [if_pos rfl] at htc
          by_cases hn : 0 < t7 ∧ 8 * t7 ≤ cur.length
          · rw [if_pos hn] at htc
            obtain ⟨s, hs, hs2⟩ := Option.map_eq_some_iff.1 htc
            rw [hsuf] at hs2
            obtain rfl : s = suf' := by simpa using hs2
            have hmax := (hCC _ hnx).2.1
            have hw : wrap64 (t7 * 8) = 8 * t7 := by unfold wrap64; omega
            have hm : (t7 * 8).toNat ≤ cur.length := by omega
            have hm0 : 0 < (t7 * 8).toNat := by omega
            gi_wp2
            have hbx5 := hbx4.set (.slice (if c' = (t7 * 8).toNat then A' else A'.map (·.add (t7 * 8).toNat)) (cur.length - (t7 * 8).toNat) (c' - (t7 * 8).toNat))
            refine ⟨⟨pre ++ [(t1, t2, t3, t4, t5, t6, t7, 0)], s, cur.drop (t7 * 8).toNat, _, _, k', by rw [hts, hsuf]; simp, by rw [Int.mul_comm] at hs; exact hs, hJb _ _ _ hJ4, hnx4.setCell (p := ⟨Bs, 0, none⟩) hn₀ _, by rw [List.length_drop]; exact hbx5, by rw [List.length_drop]; omega, fun W' h => ?_⟩, ?_⟩
            · rw [List.length_drop]
              exact Kd.C_of_reads (d := (0 : Int)) (h1 := fun _ => rfl) ((Kd.reads_of_C (hCC W' h)).drop_ _ hm hcc)
            · rw [hbx5.cell, hbx.cell]
              show cur.length - (t7 * 8).toNat < cur.length
              omega
          · rw [if_neg hn] at htc
            cases htc
        · rw [if_neg he] at htc
          have hsf := Option.some.inj htc
          gi_wp2
          refine bodyPost_ret (results_none rfl _ _ _) rfl ?_
          exact ⟨⟨_, rfl⟩, .inl ⟨_, by rw [hts, ← hsf], hJ4⟩⟩
      · clear hcell2 hy hR
        gi_wp2
        refine bodyPost_ret (results_none rfl _ _ _) rfl ?_
        exact ⟨⟨_, rfl⟩, .inr ⟨_, ⟨pre.length, hlt, by rw [hts, hsuf, List.take_append, List.take_of_length_le (by omega : pre.length ≤ pre.length + 1)]; simp⟩, hJx4⟩⟩

/-- slot.steps: the bytes are boxed; the function value captures the box. -/
theorem steps_any (A : Option Addr) (len c0 : Nat) (w : World) :
    CallsIn Fence.wide 8 Tryd.prog 73 #[.slice A len c0] w fun e w' => e = .returned (.func (.func 87) #[] #[.pointer (some ⟨w.heap.size, 0, none⟩)]) ∧ w' = w.alloc (.cells #[.slice A len c0] 44) := by
  refine callsIn_of_wp Tryd.func73 rfl trivial ?_ rfl
  simp only [Tryd.ntmps73, List.size_toArray, List.length_cons, List.length_nil, Nat.reduceAdd, Nat.reduceSub, Array.replicate_succ, Array.replicate_zero, List.push_toArray, List.append_toArray, List.nil_append, List.cons_append]
  gi_wp2
  go_ret
  exact ⟨rfl, rfl⟩
theorem keptBox_t {n₀ B : Nat} {X Y Z : World} (h : KeptBox n₀ B X Y) (k : KeptBox n₀ B Y Z) : KeptBox n₀ B X Z :=
  ⟨h.1.trans k.1, fun hl => (k.2 (Nat.lt_of_lt_of_le hl h.1.size)).trans (h.2 hl)⟩
theorem keptBox_b {n₀ B : Nat} {w : World} (hn : n₀ ≤ w.heap.size) (hB : B < w.heap.size) (W : World) (l : Nat) (o o' : Obj) (hl : w.heap.size ≤ l) (h : W.heap[l]? = some o) (h1 : o.isCells = false) (h2 : o.isWalk = false) : KeptBox n₀ B W (W.putObj l o') :=
  ⟨belowK_b hn W l o o' hl h h1 h2, fun _ => World.putObj_heap_other (by omega)⟩
theorem steps_box (Bs n₀ : Nat) (A : Option Addr) (c0 : Nat) (xs : List Int) (ts : List Dt) (k0 : Nat) (htr : trace k0 xs = some ts) (w : World) (hBs : Boxed w Bs 44 (.slice A xs.length c0)) (hn₀ : n₀ ≤ Bs) (hc : xs.length ≤ c0)
    (hC : ∀ W', Below n₀ w W' → Kd.C (Kd.int .u8) W' A xs.length xs) (hG : ∀ W', Below n₀ w W' → GG W') :
    SeqBox Fence.wide 8 Tryd.prog Bs 87 #[.pointer (some ⟨Bs, 0, none⟩)] (fun x : Dt => #[Value.agg x.cells]) (KeptBox n₀ Bs) (fun ys => ys = ts) (fun pre => ∃ j, j < ts.length ∧ pre = ts.take (j + 1)) ts.length w := by
  intro l J Jx W hW hb hJ _ hJb _ hY h0
  rw [hBs.cell] at hb
  have hlt := hBs.lt
  have hW' := hW.mono (show n₀ ≤ w.heap.size by omega)
  exact steps1_in l Bs n₀ A c0 xs ts k0 htr J Jx hJb hY W hJ hn₀ hb hc (fun W' h => hC W' (hW'.trans h)) (fun W' h => hG W' (hW'.trans h)) h0

/-- What All returns of what has come. -/
def allGo : List Dt → List S23 → Int → List S23 × Int × Int
  | [], out, _ => (out, 0, 0)
  | t :: ts, out, at_ => if t.e = 0 then allGo ts (out ++ [t.x]) (wrap64 (at_ + t.n)) else ([], at_, t.e)
def atSum (ts : List Dt) : Int := ts.foldl (fun s t => wrap64 (s + t.n)) 0
theorem atSum_snoc (ts : List Dt) (t : Dt) : atSum (ts ++ [t]) = wrap64 (atSum ts + t.n) := by simp [atSum]
def outCells (ts : List Dt) : List Value := ts.flatMap (fun t => (t.cells.toList.take 6))
theorem outCells_snoc (ts : List Dt) (t : Dt) : outCells (ts ++ [t]) = outCells ts ++ t.cells.toList.take 6 := by simp [outCells]
theorem allGo_fine (ts rest : List Dt) (h : ∀ t ∈ ts, t.e = 0) : ∀ (out : List S23) (s : Int), allGo (ts ++ rest) out s = allGo rest (out ++ ts.map Dt.x) (ts.foldl (fun s t => wrap64 (s + t.n)) s) := by
  induction ts with
  | nil => intro out s; simp
  | cons t ts ih =>
    intro out s
    show (if t.e = 0 then allGo (ts ++ rest) (out ++ [t.x]) (wrap64 (s + t.n)) else ([], s, t.e)) = _
    rw [if_pos (h t (by simp)), ih (fun u hu => h u (by simp [hu]))]
    simp

def allLen (ts : List Dt) : Nat := if (allGo ts [] 0).2.2 = 0 then ts.length else 0
def allCells (ts : List Dt) : List Value := if (allGo ts [] 0).2.2 = 0 then outCells ts else []
theorem infoX : (Tryd.prog.info? 23).map (fun i => (i.zero, i.size, i.bytes)) = some (some (.agg #[.int .i64 0, .bool false, .int .i64 0, .int .i64 0, .int .i64 0, .int .i64 0]), 6, 48) := by kernel_rfl

/-- What holds between two rounds of All: n₀ the heap's size ahead of it. -/
structure AllI (n₀ : Nat) (w : World) (pre : List Dt) (W : World) : Prop where
  fine : ∀ t ∈ pre, t.e = 0
  few : pre.length ≤ 65536
  below : Below n₀ w W
  r0 : Boxed W n₀ 59 (.slice none 0 0)
  r1 : Boxed W (n₀ + 1) 3 (.int .i64 0)
  r2 : Boxed W (n₀ + 2) 45 (.int .i64 0)
  out : ∃ v, Boxed W (n₀ + 3) 59 v ∧ W.ownsRow n₀ 23 6 v pre.length (outCells pre)
  at_ : Boxed W (n₀ + 4) 3 (.int .i64 (atSum pre))
  bx : ∃ v, Boxed W (n₀ + 5) 44 v
/-- What holds where a round has returned. -/
structure AllX (n₀ : Nat) (w : World) (pre : List Dt) (W : World) : Prop where
  last : ∃ ini t, pre = ini ++ [t] ∧ (∀ t ∈ ini, t.e = 0) ∧ t.e ≠ 0 ∧ Boxed W (n₀ + 1) 3 (.int .i64 (atSum ini)) ∧ Boxed W (n₀ + 2) 45 (.int .i64 t.e)
  below : Below n₀ w W
  r0 : Boxed W n₀ 59 (.slice none 0 0)

theorem boxed_grown {X Y : World} {row : Option Nat} {B : Nat} {t : TypeId} {v : Value} (h : Boxed X B t v) (hg : X.grownBy Y row) (hr : ∀ r, row = some r → ∃ o : Obj, X.heap[r]? = some o ∧ o.isCells = false) : Boxed Y B t v :=
  h.kept hg (fun e' => by obtain ⟨o, ho, hc⟩ := hr B e'.symm; rw [show X.heap[B]? = _ from h] at ho; cases ho; cases hc)
theorem below_grown' {n₀ B : Nat} {w X Y : World} {row : Option Nat} (hn : n₀ ≤ w.heap.size) (hB : n₀ ≤ B) (h : Below n₀ w X) (hg : X.grownBy Y row) (hr : ∀ r, row = some r → B ≤ r ∧ ∃ o : Obj, X.heap[r]? = some o ∧ o.isCells = false) : Below n₀ w Y :=
  ownFrom_below (β := Unit) hn hB () X Y row h hg hr
theorem AllI.own {n₀ B : Nat} {w : World} (hn : n₀ ≤ w.heap.size) (hB : n₀ ≤ B) : OwnFrom B (AllI n₀ w) := by
  intro pre X Y row h hg hr
  have hr2 : ∀ r, row = some r → ∃ o : Obj, X.heap[r]? = some o ∧ o.isCells = false := fun r e => (hr r e).2
  obtain ⟨v, h1, h2⟩ := h.out
  obtain ⟨u, h3⟩ := h.bx
  exact ⟨h.fine, h.few, below_grown' hn hB h.below hg hr, boxed_grown h.r0 hg hr2, boxed_grown h.r1 hg hr2, boxed_grown h.r2 hg hr2,
    by
      obtain ⟨v', a, b, _⟩ := holdsRow_own (β := Unit) n₀ (n₀ + 3) 59 23 6 (fun _ => pre.length) (fun _ => outCells pre) (fun _ _ => True) () X Y row ⟨v, h1, h2, trivial⟩ hg hr2
      exact ⟨v', a, b⟩, boxed_grown h.at_ hg hr2, ⟨u, boxed_grown h3 hg hr2⟩⟩
theorem AllX.own {n₀ B : Nat} {w : World} (hn : n₀ ≤ w.heap.size) (hB : n₀ ≤ B) : OwnFrom B (AllX n₀ w) := by
  intro pre X Y row h hg hr
  have hr2 : ∀ r, row = some r → ∃ o : Obj, X.heap[r]? = some o ∧ o.isCells = false := fun r e => (hr r e).2
  obtain ⟨ini, t, e1, e2, e3, e4, e5⟩ := h.last
  exact ⟨⟨ini, t, e1, e2, e3, boxed_grown e4 hg hr2, boxed_grown e5 hg hr2⟩, below_grown' hn hB h.below hg hr, boxed_grown h.r0 hg hr2⟩
theorem row_other {W : World} {n₀ B k : Nat} {u v : Value} {xs : List Value} {t : TypeId} (hte : t ≠ 23) (hb : Boxed W B t u) (h : W.ownsRow n₀ 23 6 v k xs) (x : Value) : (W.setCell ⟨B, 0, none⟩ x).ownsRow n₀ 23 6 v k xs :=
  h.kept (grownBy_setCell' W B x) (.inr (hb.not_row hte h).symm)
theorem AllI.blind {n₀ : Nat} {w : World} : Blind (n₀ + 5) (AllI n₀ w) := by
  intro pre W x h
  obtain ⟨v, h1, h2⟩ := h.out
  obtain ⟨u, h3⟩ := h.bx
  exact ⟨h.fine, h.few, h.below.setCell (p := ⟨n₀ + 5, 0, none⟩) (by simp) _, h.r0.other (by omega) _, h.r1.other (by omega) _, h.r2.other (by omega) _, ⟨v, h1.other (by omega) _, row_other (by decide) h3 h2 _⟩, h.at_.other (by omega) _, ⟨x, h3.set x⟩⟩
theorem AllX.blind {n₀ : Nat} {w : World} : Blind (n₀ + 5) (AllX n₀ w) := by
  intro pre W x h
  obtain ⟨ini, t, e1, e2, e3, e4, e5⟩ := h.last
  exact ⟨⟨ini, t, e1, e2, e3, e4.other (by omega) _, e5.other (by omega) _⟩, h.below.setCell (p := ⟨n₀ + 5, 0, none⟩) (by simp) _, h.r0.other (by omega) _⟩

theorem cells_new (W : World) (cs : List Value) (t : TypeId) : ∀ j u, cs[j]? = some u → (W.alloc (.cells cs.toArray t)).cell? ((⟨W.heap.size, 0, none⟩ : Addr).add j) = some u := by
  intro j u h
  have h1 := World.alloc_heap_new W (.cells cs.toArray t)
  rw [show (⟨W.heap.size, 0, none⟩ : Addr).add j = ⟨W.heap.size, j, none⟩ by cases j <;> simp [Addr.add]]
  simp only [World.cell?, h1]
  simpa using h
/-- Where a walk is to wait. -/
def Dbg (p : Prop) : Prop := p
theorem dbg {p : Prop} (h : Dbg p) : p := h
/-- A block of another type is not the row. -/
theorem not_row' {W : World} {p : Nat} {cs : Array Value} {t e : TypeId} (h : W.heap[p]? = some (.cells cs t (0, 0))) (hte : t ≠ e) {base size k : Nat} {v : Value} {xs : List Value} (hr : W.ownsRow base e size v k xs) : some p ≠ v.ownBlock := fun e' => by
  obtain ⟨cells, hc⟩ := own_typed hr p e'.symm
  rw [h] at hc
  injection hc with hc
  injection hc with _ hc
  exact hte hc
set_option maxRecDepth 100000 in
set_option maxHeartbeats 2000000 in
theorem All_in (A : Option Addr) (c0 : Nat) (xs : List Int) (ts : List Dt) (k0 : Nat) (htr : trace k0 xs = some ts) (hlen : ts.length ≤ 65536) (hc : xs.length ≤ c0) (w : World) (hC : Kd.C (Kd.int .u8) w A xs.length xs) (hG : GG w) :
    CallsIn Fence.wide 9 Tryd.prog 35 #[.slice A xs.length c0] w fun e W' => ∃ v, e = .returned (.tuple #[v, .int .i64 (allGo ts [] 0).2.1, .int .i64 (allGo ts [] 0).2.2]) ∧
      W'.ownsRow w.heap.size 23 6 v (allLen ts) (allCells ts) ∧ Below w.heap.size w W' := by
  obtain ⟨i0, hi, hz0, hz1, hz2⟩ := info_parts infoX
  refine callsIn_of_wp_marks Tryd.func35 rfl trivial ?_ rfl
  simp only [Tryd.ntmps35, List.size_toArray, List.length_cons, List.length_nil, Nat.reduceAdd, Nat.reduceSub, Array.replicate_succ, Array.replicate_zero, List.push_toArray, List.append_toArray, List.nil_append, List.cons_append]
  gi_wp2
  refine ⟨trivial, (steps_any _ _ _ _).mono ?_⟩
  rintro e w' ⟨rfl, rfl⟩
  have b0 := Boxed.new w 59 (.slice none 0 0)
  have b1 := Boxed.new (w.alloc (.cells #[.slice none 0 0] 59)) 3 (.int .i64 0)
  have b2 := Boxed.new ((w.alloc (.cells #[.slice none 0 0] 59)).alloc (.cells #[.int .i64 0] 3)) 45 (.int .i64 0)
  have b3 := Boxed.new (((w.alloc (.cells #[.slice none 0 0] 59)).alloc (.cells #[.int .i64 0] 3)).alloc (.cells #[.int .i64 0] 45)) 59 (.slice none 0 0)
  have b4 := Boxed.new ((((w.alloc (.cells #[.slice none 0 0] 59)).alloc (.cells #[.int .i64 0] 3)).alloc (.cells #[.int .i64 0] 45)).alloc (.cells #[.slice none 0 0] 59)) 3 (.int .i64 0)
  have b5 := Boxed.new (((((w.alloc (.cells #[.slice none 0 0] 59)).alloc (.cells #[.int .i64 0] 3)).alloc (.cells #[.int .i64 0] 45)).alloc (.cells #[.slice none 0 0] 59)).alloc (.cells #[.int .i64 0] 3)) 44 (.slice A xs.length c0)
  have b0 := ((((b0.alloc (.cells #[.int .i64 0] 3)).alloc (.cells #[.int .i64 0] 45)).alloc (.cells #[.slice none 0 0] 59)).alloc (.cells #[.int .i64 0] 3)).alloc (.cells #[.slice A xs.length c0] 44)
  have b1 := (((b1.alloc (.cells #[.int .i64 0] 45)).alloc (.cells #[.slice none 0 0] 59)).alloc (.cells #[.int .i64 0] 3)).alloc (.cells #[.slice A xs.length c0] 44)
  have b2 := ((b2.alloc (.cells #[.slice none 0 0] 59)).alloc (.cells #[.int .i64 0] 3)).alloc (.cells #[.slice A xs.length c0] 44)
  have b3 := (b3.alloc (.cells #[.int .i64 0] 3)).alloc (.cells #[.slice A xs.length c0] 44)
  have b4 := b4.alloc (.cells #[.slice A xs.length c0] 44)
  simp only [World.size_alloc] at b1 b2 b3 b4 b5
  have hB0 : Below w.heap.size w ((((((w.alloc (.cells #[.slice none 0 0] 59)).alloc (.cells #[.int .i64 0] 3)).alloc (.cells #[.int .i64 0] 45)).alloc (.cells #[.slice none 0 0] 59)).alloc (.cells #[.int .i64 0] 3)).alloc (.cells #[.slice A xs.length c0] 44)) :=
    ((((((Below.refl _ w).alloc (Nat.le_refl _) _).alloc (by simp) _).alloc (by simp; omega) _).alloc (by simp; omega) _).alloc (by simp; omega) _).alloc (by simp; omega) _
  gi_wp2
  refine rangeFunc_box (B := w.heap.size + 5) (bv := .slice A xs.length c0) b5 rfl (by omega) (gf := 87) (lb := #[.pointer (some ⟨w.heap.size + 1 + 1 + 1 + 1 + 1, 0, none⟩)]) rfl trivial (enters_of Tryd.func87 (by kernel_rfl) rfl)
    (steps_box (w.heap.size + 5) w.heap.size A c0 xs ts k0 htr _ b5 (by omega) hc (fun W' h => Kd.C_below hC (hB0.trans h)) (fun W' h => G_at hG (hB0.trans h))) (fun h k => keptBox_t h k) (keptBox_b (by simp; omega) (by simp)) (fun _ => rfl)
    (AllI w.heap.size w) (fun c pre W => c = .ret ∧ AllX w.heap.size w pre W) (AllI.own (Nat.le_refl _) (by simp; omega)) (fun c => OwnFrom.and (ownFrom_pure _ _) (AllX.own (Nat.le_refl _) (by simp; omega))) AllI.blind (fun c s W v h => ⟨h.1, AllX.blind s W v h.2⟩)
    ⟨by simp, by simp, hB0, b0, b1, b2, ⟨_, b3, World.ownsRow_nil _ _ _ _⟩, b4, ⟨_, b5⟩⟩
    (fun x a' W => ∃ p, w.heap.size + 5 < p ∧ W.heap[p]? = some (.cells x.cells 93 (0, 0)) ∧ a' = { tmps := #[.slice A xs.length c0, undef, .pointer (some ⟨w.heap.size, 0, none⟩), .pointer (some ⟨w.heap.size + 1, 0, none⟩), .pointer (some ⟨w.heap.size + 1 + 1, 0, none⟩), .pointer (some ⟨w.heap.size + 1 + 1 + 1, 0, none⟩), .pointer (some ⟨w.heap.size + 1 + 1 + 1 + 1, 0, none⟩), .pointer (some ⟨p, 0, none⟩), .slice A xs.length c0, .func (.func 87) #[] #[.pointer (some ⟨w.heap.size + 1 + 1 + 1 + 1 + 1, 0, none⟩)], .agg x.cells, undef, undef, undef, undef, undef, undef, undef, undef, undef, undef, undef, undef, undef, undef, undef, undef], defers := [] })
    ?keeps ?assign ?body ?done ?stop
  case keeps =>
    rintro x a' s X Y row ⟨p, hp, hh, rfl⟩ hg hr
    refine ⟨p, hp, (hg.block p (Array.getElem?_eq_some_iff.1 hh).1 (fun e => ?_)).trans hh, rfl⟩
    obtain ⟨_, o, ho, hcl⟩ := hr p e.symm
    rw [hh] at ho
    cases ho
    cases hcl
  case assign =>
    rintro l pre ⟨t1, t2, t3, t4, t5, t6, t7, t8⟩ W K hI hK
    have hlt5 := (hI.bx.choose_spec).lt
    have hs := hI.below.size
    simp only [Dt.cells] at hK ⊢
    gi_wp2
    exact hK _ _ ((KeepsOthers.alloc _ _).from _) ⟨(Below.refl _ W).alloc hs _, fun h => (World.grownBy_alloc W _ none).block _ h (by simp)⟩ (OwnFrom.alloc (AllI.own (Nat.le_refl _) (Nat.le_refl _)) _ hI) ⟨W.heap.size, hlt5, World.alloc_heap_new W _, rfl⟩
  case body =>
    rintro l pre ⟨t1, t2, t3, t4, t5, t6, t7, t8⟩ a' W hI ⟨p, hp, hcells, rfl⟩ hlt
    obtain ⟨v, hv, hrow⟩ := hI.out
    obtain ⟨bv, hbx⟩ := hI.bx
    have hsz := hI.below.size
    simp only [Dt.cells] at hcells ⊢
    have c0' : W.cell? ⟨p, 0, none⟩ = some (.int .i64 t1) := by simp [World.cell?, hcells]
    have c1' : W.cell? ⟨p, 1, none⟩ = some (.bool t2) := by simp [World.cell?, hcells]
    have c2' : W.cell? ⟨p, 2, none⟩ = some (.int .i64 t3) := by simp [World.cell?, hcells]
    have c3' : W.cell? ⟨p, 3, none⟩ = some (.int .i64 t4) := by simp [World.cell?, hcells]
    have c4' : W.cell? ⟨p, 4, none⟩ = some (.int .i64 t5) := by simp [World.cell?, hcells]
    have c5' : W.cell? ⟨p, 5, none⟩ = some (.int .i64 t6) := by simp [World.cell?, hcells]
    have c6' : W.cell? ⟨p, 6, none⟩ = some (.int .i64 t7) := by simp [World.cell?, hcells]
    have c7' : W.cell? ⟨p, 7, none⟩ = some (.int .i64 t8) := by simp [World.cell?, hcells]
    have ha : W.cell? ⟨w.heap.size + 1 + 1 + 1 + 1, 0, none⟩ = some (.int .i64 (atSum pre)) := hI.at_.cell
    by_cases he : t8 = 0
    · subst he
      have ho : W.cell? ⟨w.heap.size + 1 + 1 + 1, 0, none⟩ = some v := hv.cell
      gi_wp2_with (gi_at_builtin; refine dbg ?_)
      unfold Dbg
      have hfew := hI.few
      refine wpListIn_append_own_at _ rfl _ _ 59 rfl w.heap.size 23 i0 (.agg #[.int .i64 0, .bool false, .int .i64 0, .int .i64 0, .int .i64 0, .int .i64 0]) 6 48 Tryd.underlying59 hi hz0 hz1 hz2 rfl (by decide) _ _ _ rfl (hrow.alloc _) ⟨W.heap.size, 0, none⟩ 1 1 [.int .i64 t1, .bool t2, .int .i64 t3, .int .i64 t4, .int .i64 t5, .int .i64 t6] rfl rfl (cells_new W _ _) (by simp [Value.oneCell']) (by unfold maxLen; omega) (by omega) (by simp; omega) ?_
      intro v' w1 hown' hgrow _ _
      obtain ⟨g', cap', rfl⟩ := ownsRow_succ hown'
      obtain ⟨hv1, hv2, hr2, hk2, hb2⟩ := hv.appended (by decide) hrow hsz (by omega) hown' hgrow
      have lift1 : ∀ (B : Nat) (t : TypeId) (u : Value), t ≠ 23 → Boxed W B t u → Boxed w1 B t u := fun B t u ht h => (h.alloc (.cells #[.int .i64 t1, .bool t2, .int .i64 t3, .int .i64 t4, .int .i64 t5, .int .i64 t6] 23)).kept hgrow ((h.alloc (.cells #[.int .i64 t1, .bool t2, .int .i64 t3, .int .i64 t4, .int .i64 t5, .int .i64 t6] 23)).not_row ht (hrow.alloc (.cells #[.int .i64 t1, .bool t2, .int .i64 t3, .int .i64 t4, .int .i64 t5, .int .i64 t6] 23)))
      have hat2 := (lift1 _ _ _ (by decide) hI.at_).other (B' := w.heap.size + 3) (by omega) (.slice (some ⟨g', 0, none⟩) (pre.length + 1) cap')
      have hbx2 := (lift1 _ _ _ (by decide) hbx).other (B' := w.heap.size + 3) (by omega) (.slice (some ⟨g', 0, none⟩) (pre.length + 1) cap')
      have hpW : p < W.heap.size := (Array.getElem?_eq_some_iff.1 hcells).1
      have hp1 : (w1.setCell ⟨w.heap.size + 1 + 1 + 1, 0, none⟩ (.slice (some ⟨g', 0, none⟩) (pre.length + 1) cap')).heap[p]? = some (.cells #[.int .i64 t1, .bool t2, .int .i64 t3, .int .i64 t4, .int .i64 t5, .int .i64 t6, .int .i64 t7, .int .i64 0] 93 (0, 0)) := by
        refine (set_other _ _ _ (by omega)).trans ?_
        have ha0 : (W.alloc (.cells #[.int .i64 t1, .bool t2, .int .i64 t3, .int .i64 t4, .int .i64 t5, .int .i64 t6] 23)).heap[p]? = _ := ((World.grownBy_alloc W _ none).block p hpW (by simp)).trans hcells
        exact (hgrow.block p (by simp; omega) (not_row' ha0 (by decide) (hrow.alloc _))).trans ha0
      have k6 : (w1.setCell ⟨w.heap.size + 1 + 1 + 1, 0, none⟩ (.slice (some ⟨g', 0, none⟩) (pre.length + 1) cap')).cell? ⟨p, 6, none⟩ = some (.int .i64 t7) := by simp [World.cell?, hp1]
      have hc1 : w1.cell? ⟨w.heap.size + 1 + 1 + 1, 0, none⟩ = some v := hv1.cell
      have hf1 : w1.frozen? ⟨w.heap.size + 1 + 1 + 1, 0, none⟩ = false := hv1.frozen
      have hc3 : (w1.setCell ⟨w.heap.size + 1 + 1 + 1, 0, none⟩ (.slice (some ⟨g', 0, none⟩) (pre.length + 1) cap')).cell? ⟨w.heap.size + 1 + 1 + 1 + 1, 0, none⟩ = some (.int .i64 (atSum pre)) := hat2.cell
      have hf3 : (w1.setCell ⟨w.heap.size + 1 + 1 + 1, 0, none⟩ (.slice (some ⟨g', 0, none⟩) (pre.length + 1) cap')).frozen? ⟨w.heap.size + 1 + 1 + 1 + 1, 0, none⟩ = false := hat2.frozen
      clear c0' c1' c2' c3' c4' c5' c6' c7' ha ho hp1
      gi_wp2
      have lift : ∀ (B : Nat) (t : TypeId) (u x : Value), t ≠ 23 → B ≠ w.heap.size + 3 → B ≠ w.heap.size + 4 → Boxed W B t u →
          Boxed ((w1.setCell ⟨w.heap.size + 3, 0, none⟩ (.slice (some ⟨g', 0, none⟩) (pre.length + 1) cap')).setCell ⟨w.heap.size + 4, 0, none⟩ x) B t u := fun B t u x ht h3 h4 h => ((lift1 B t u ht h).other h3 _).other h4 _
      refine ⟨(hk2.trans (KeepsOthers.setCell _ _ _)).from _, ⟨hb2.setCell (p := ⟨w.heap.size + 4, 0, none⟩) (by simp) _, fun _ => (hbx2.other (by omega) _ : _ = _).trans (show W.heap[_]? = _ from hbx).symm⟩, ?_⟩
      refine ⟨fun u hu => ?_, by simp; omega, (hI.below.trans hb2).setCell (p := ⟨w.heap.size + 4, 0, none⟩) (by simp) _, lift _ _ _ _ (by decide) (by omega) (by omega) hI.r0, lift _ _ _ _ (by decide) (by omega) (by omega) hI.r1, lift _ _ _ _ (by decide) (by omega) (by omega) hI.r2, ⟨_, hv2.other (by omega) _, ?_⟩, ?_, ⟨_, hbx2.other (by omega) _⟩⟩
      · rcases List.mem_append.1 hu with h | h
        · exact hI.fine u h
        · rw [List.mem_singleton] at h
          subst h
          rfl
      · rw [outCells_snoc, List.length_append]
        exact row_other (by decide) hat2 hr2 _
      · rw [atSum_snoc]
        exact hat2.set _
    · have hd : (t8 != 0) = true := by simp [he]
      have q0 : W.cell? ⟨w.heap.size, 0, none⟩ = some (.slice none 0 0) := hI.r0.cell
      have q1 : W.cell? ⟨w.heap.size + 1, 0, none⟩ = some (.int .i64 0) := hI.r1.cell
      have q2 : W.cell? ⟨w.heap.size + 1 + 1, 0, none⟩ = some (.int .i64 0) := hI.r2.cell
      have g0 : W.frozen? ⟨w.heap.size, 0, none⟩ = false := hI.r0.frozen
      have g1 : W.frozen? ⟨w.heap.size + 1, 0, none⟩ = false := hI.r1.frozen
      have g2 : W.frozen? ⟨w.heap.size + 1 + 1, 0, none⟩ = false := hI.r2.frozen
      gi_wp2
      have fin : ∀ b, KeepsFrom b W (((W.setCell ⟨w.heap.size, 0, none⟩ (.slice none 0 0)).setCell ⟨w.heap.size + 1, 0, none⟩ (.int .i64 (atSum pre))).setCell ⟨w.heap.size + 2, 0, none⟩ (.int .i64 t8)) ∧ AllX w.heap.size w (pre ++ [(t1, t2, t3, t4, t5, t6, t7, t8)]) (((W.setCell ⟨w.heap.size, 0, none⟩ (.slice none 0 0)).setCell ⟨w.heap.size + 1, 0, none⟩ (.int .i64 (atSum pre))).setCell ⟨w.heap.size + 2, 0, none⟩ (.int .i64 t8)) := by
        refine fun b => ⟨(((KeepsOthers.setCell _ _ _).trans (KeepsOthers.setCell _ _ _)).trans (KeepsOthers.setCell _ _ _)).from _, ⟨pre, _, rfl, hI.fine, he, ((hI.r1.other (by omega) _).set _).other (by omega) _, ((hI.r2.other (by omega) _).other (by omega) _).set _⟩, ?_, ((hI.r0.set _).other (by omega) _).other (by omega) _⟩
        exact ((hI.below.setCell (p := ⟨w.heap.size, 0, none⟩) (by simp) _).setCell (p := ⟨w.heap.size + 1, 0, none⟩) (by simp) _).setCell (p := ⟨w.heap.size + 2, 0, none⟩) (by simp) _
      have fin2 : ∀ (b : Nat) (X : World), KeepsFrom b W X ∧ AllX w.heap.size w (pre ++ [(t1, t2, t3, t4, t5, t6, t7, t8)]) X → KeepsFrom b W X.drew ∧ Code.ret = Code.ret ∧ AllX w.heap.size w (pre ++ [(t1, t2, t3, t4, t5, t6, t7, t8)]) X.drew := fun b X h =>
        ⟨⟨h.1.size, h.1.same⟩, rfl, h.2.last, pw_below_drewN h.2.below 1, h.2.r0⟩
      have fin3 := fun b => fin2 b _ (fin b)
      clear fin fin2
      have FIN := Lib.hid fin3
      clear fin3
      gi_region
      all_goals gi_wp2
      all_goals exact ⟨(FIN.out _).1, rfl, (FIN.out 0).2.2⟩
  case done =>
    rintro D ys W hD rfl hI hK
    obtain ⟨v, hv, hrow⟩ := hI.out
    obtain ⟨va, vn, vc, rfl⟩ : ∃ a n c, v = .slice a n c := by rcases hrow.2 with ⟨h, _⟩ | ⟨g, cap, cur, h, _⟩ <;> exact ⟨_, _, _, h⟩
    have ho : W.cell? ⟨w.heap.size + 1 + 1 + 1, 0, none⟩ = some (.slice va vn vc) := hv.cell
    have q0 : W.cell? ⟨w.heap.size, 0, none⟩ = some (.slice none 0 0) := hI.r0.cell
    have q1 : W.cell? ⟨w.heap.size + 1, 0, none⟩ = some (.int .i64 0) := hI.r1.cell
    have q2 : W.cell? ⟨w.heap.size + 1 + 1, 0, none⟩ = some (.int .i64 0) := hI.r2.cell
    have g0 : W.frozen? ⟨w.heap.size, 0, none⟩ = false := hI.r0.frozen
    have g1 : W.frozen? ⟨w.heap.size + 1, 0, none⟩ = false := hI.r1.frozen
    have g2 : W.frozen? ⟨w.heap.size + 1 + 1, 0, none⟩ = false := hI.r2.frozen
    gi_wp2
    have hgo : allGo ys [] 0 = (ys.map Dt.x, 0, 0) := by
      have := allGo_fine ys [] hI.fine [] 0
      rw [List.append_nil] at this
      rw [this]
      simp [allGo]
    have k0 := ((hI.r0.set (.slice va vn vc)).other (B' := w.heap.size + 1) (by omega) (.int .i64 0)).other (B' := w.heap.size + 2) (by omega) (.int .i64 0)
    have k1 := ((hI.r1.other (B' := w.heap.size) (by omega) (.slice va vn vc)).set (.int .i64 0)).other (B' := w.heap.size + 2) (by omega) (.int .i64 0)
    have k2 := ((hI.r2.other (B' := w.heap.size) (by omega) (.slice va vn vc)).other (B' := w.heap.size + 1) (by omega) (.int .i64 0)).set (.int .i64 0)
    have hrow3 := row_other (by decide) ((hI.r2.other (B' := w.heap.size) (by omega) (.slice va vn vc)).other (B' := w.heap.size + 1) (by omega) (.int .i64 0)) (row_other (by decide) (hI.r1.other (B' := w.heap.size) (by omega) (.slice va vn vc)) (row_other (by decide) hI.r0 hrow (.slice va vn vc)) (.int .i64 0)) (.int .i64 0)
    have hb3 : Below w.heap.size w _ := ((hI.below.setCell (p := ⟨w.heap.size, 0, none⟩) (by simp) (.slice va vn vc)).setCell (p := ⟨w.heap.size + 1, 0, none⟩) (by simp) (.int .i64 0)).setCell (p := ⟨w.heap.size + 2, 0, none⟩) (by simp) (.int .i64 0)
    have hK3 := (((KeepsOthers.setCell W ⟨w.heap.size, 0, none⟩ (.slice va vn vc)).trans (KeepsOthers.setCell _ ⟨w.heap.size + 1, 0, none⟩ (.int .i64 0))).trans (KeepsOthers.setCell _ ⟨w.heap.size + 2, 0, none⟩ (.int .i64 0))).same D _ hK rfl
    refine ⟨by simp, .inl ⟨_, _, rfl, run_takeDeferred hK3, ?_⟩⟩
    have z0 := cell_kept k0.cell (grownBy_putObj' _ D (.deferred none)) (fun r e => by cases e; exact ⟨_, hK3, rfl⟩)
    have z1 := cell_kept k1.cell (grownBy_putObj' _ D (.deferred none)) (fun r e => by cases e; exact ⟨_, hK3, rfl⟩)
    have z2 := cell_kept k2.cell (grownBy_putObj' _ D (.deferred none)) (fun r e => by cases e; exact ⟨_, hK3, rfl⟩)
    refine ⟨.tuple #[(.slice va vn vc), .int .i64 0, .int .i64 0], ?_, (.slice va vn vc), by rw [hgo], ?_, hb3.trans (belowK_b (w := w) (Nat.le_refl _) _ D _ _ (by simp at hD; omega) hK3 rfl rfl)⟩
    · simp [results, Tryd.f35, go_sem, z0, z1, z2]
    · simp only [allLen, allCells, hgo, if_true]
      exact ownsRow_putObj hrow3 _ hK3 rfl
  case stop =>
    rintro D c pre W hD ⟨k, hk, rfl⟩ ⟨rfl, hX⟩ hK
    obtain ⟨ini, t, e1, e2, e3, k1, k2⟩ := hX.last
    gi_wp2
    have hgo : allGo ts [] 0 = ([], atSum ini, t.e) := by
      have h1 : ts = ini ++ (t :: ts.drop (k + 1)) := by
        have h := (List.take_append_drop (k + 1) ts).symm
        rw [e1, List.append_assoc] at h
        exact h
      rw [h1, allGo_fine ini _ e2]
      show (if t.e = 0 then _ else _) = _
      rw [if_neg e3]
      rfl
    refine ⟨by simp, .inl ⟨_, _, rfl, run_takeDeferred hK, ?_⟩⟩
    have z0 := cell_kept hX.r0.cell (grownBy_putObj' _ D (.deferred none)) (fun r e => by cases e; exact ⟨_, hK, rfl⟩)
    have z1 := cell_kept k1.cell (grownBy_putObj' _ D (.deferred none)) (fun r e => by cases e; exact ⟨_, hK, rfl⟩)
    have z2 := cell_kept k2.cell (grownBy_putObj' _ D (.deferred none)) (fun r e => by cases e; exact ⟨_, hK, rfl⟩)
    refine ⟨.tuple #[.slice none 0 0, .int .i64 (atSum ini), .int .i64 t.e], ?_, .slice none 0 0, by rw [hgo], ?_, hX.below.trans (belowK_b (w := w) (Nat.le_refl _) W D _ _ (by simp at hD; omega) hK rfl rfl)⟩
    · simp [results, Tryd.f35, go_sem, z0, z1, z2]
    · simp only [allLen, allCells, hgo, if_neg e3]
      exact World.ownsRow_nil _ _ _ _

/-! In the print's form -/
theorem list_snoc_ind {α : Type} (C : List α → Prop) (h0 : C []) (h1 : ∀ l a, C l → C (l ++ [a])) (l : List α) : C l := by
  have : ∀ n (l : List α), l.length = n → C l := by
    intro n
    induction n with
    | zero => intro l hl; rw [List.eq_nil_of_length_eq_zero hl]; exact h0
    | succ n ih =>
      intro l hl
      have hne : l ≠ [] := by intro h; rw [h] at hl; cases hl
      rw [← List.dropLast_concat_getLast hne]
      exact h1 _ _ (ih _ (by rw [List.length_dropLast]; omega))
  exact this _ l rfl
theorem allGo_all : ∀ (ts : List Dt) (out : List S23) (s : Int), (allGo ts out s).2.2 = 0 → ∀ t ∈ ts, t.e = 0
  | [], _, _, _ => by simp
  | t :: ts, out, s, h => by
    unfold allGo at h
    split at h
    · rename_i he
      intro u hu
      rcases List.mem_cons.1 hu with rfl | hu
      · exact he
      · exact allGo_all ts _ _ h u hu
    · rename_i he
      exact absurd h he
theorem allGo_none : ∀ (ts : List Dt) (out : List S23) (s : Int), (allGo ts out s).2.2 ≠ 0 → (allGo ts out s).1 = []
  | [], _, _, h => absurd rfl h
  | t :: ts, out, s, h => by
    unfold allGo at h ⊢
    split
    · rename_i he
      rw [if_pos he] at h
      exact allGo_none ts _ _ h
    · rfl
theorem reps_out (W : World) (base : Nat) (ok : Nat → Prop) : ∀ ts : List Dt, Reps (k23.M W base ok) 6 (ts.map Dt.x) (outCells ts) := by
  intro ts
  refine list_snoc_ind (fun ts => Reps (k23.M W base ok) 6 (ts.map Dt.x) (outCells ts)) (Reps.none _ _) (fun ts t ih => ?_) ts
  rw [List.map_append, outCells_snoc]
  refine Reps.snoc ih ?_ ?_
  · exact k23_mkM W base ok t.x
  · obtain ⟨t1, t2, t3, t4, t5, t6, t7, t8⟩ := t
    rfl
theorem trace_mono : ∀ (k : Nat) (b : List Int) (ts : List Dt), trace k b = some ts → trace (k + 1) b = some ts
  | 0, b, ts, h => by cases h
  | k + 1, b, ts, h => by
    rw [trace] at h
    rw [trace]
    split at h
    · rename_i h0
      rw [if_pos h0]
      exact h
    · rename_i h0
      rw [if_neg h0]
      obtain ⟨t, ht, h⟩ := Option.bind_eq_some_iff.1 h
      rw [ht, Option.bind_some]
      split at h
      · rename_i he
        rw [if_pos he]
        split at h
        · rename_i hn
          rw [if_pos hn]
          obtain ⟨s, hs, rfl⟩ := Option.map_eq_some_iff.1 h
          rw [trace_mono k _ s hs]
          rfl
        · cases h
      · rename_i he
        rw [if_neg he]
        exact h
def slot_All.f (k : Nat) (l0 : List Int) : Option (List S23 × Int × Int) := (trace k l0).bind fun ts => if ts.length ≤ 65536 then some ((allGo ts [] 0).1, (allGo ts [] 0).2.1, (allGo ts [] 0).2.2) else none
theorem slot_All.mono : ∀ l0 k, LeO (slot_All.f k l0) (slot_All.f (k + 1) l0) := by
  intro l0 k r h
  unfold slot_All.f at h ⊢
  obtain ⟨ts, ht, h⟩ := Option.bind_eq_some_iff.1 h
  rw [trace_mono k l0 ts ht]
  exact h
theorem slot_All.calls (k : Nat) (A0 : Option Addr) (c0 : Nat) (l0 : List Int) (r1 : List S23) (r2 : Int) (r3 : Int) (w : World) (hr0 : Kd.C (Kd.int .u8) w A0 l0.length l0) (hc0 : l0.length ≤ c0) (h : slot_All.f k l0 = some (r1, r2, r3)) (hG : GG w) :
    Calls Tryd.prog 35 #[.slice A0 l0.length c0] w fun e w' => ∃ v0_ : Value, e = .returned (.tuple #[v0_, .int .i64 r2, .int .i64 r3]) ∧ Kd.R k23 23 w' w.heap.size (fun _ => True) v0_ r1 ∧ Below w.heap.size w w' := by
  unfold slot_All.f at h
  obtain ⟨ts, ht, h⟩ := Option.bind_eq_some_iff.1 h
  split at h
  · rename_i hlen
    have h := Option.some.inj h
    simp only [Prod.mk.injEq] at h
    obtain ⟨rfl, rfl, rfl⟩ := h
    refine (callsIn_wide.1 (All_in A0 c0 l0 ts k ht hlen hc0 w hr0 hG)).mono ?_
    rintro e w' ⟨v, rfl, hrow, hb⟩
    refine ⟨v, rfl, ⟨fun _ _ => trivial, ?_⟩, hb⟩
    unfold allLen allCells at hrow
    by_cases he : (allGo ts [] 0).2.2 = 0
    · rw [if_pos he, if_pos he] at hrow
      have hf := allGo_all ts [] 0 he
      have e1 : (allGo ts [] 0).1 = ts.map Dt.x := by
        have := allGo_fine ts [] hf [] 0
        rw [List.append_nil] at this
        rw [this]
        simp [allGo]
      rw [e1]
      exact ⟨_, by rw [List.length_map]; exact hrow, reps_out _ _ _ ts⟩
    · rw [if_neg he, if_neg he] at hrow
      rw [allGo_none ts [] 0 he]
      exact ⟨_, hrow, Reps.none _ _⟩
  · cases h
end Go.Proofs.YtnllfppkfdnjpabDoor.Q
