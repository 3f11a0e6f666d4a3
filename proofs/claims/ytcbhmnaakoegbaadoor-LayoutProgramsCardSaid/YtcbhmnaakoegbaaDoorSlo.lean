/- layout.slots: the iterator over the slots of a list of instructions. -/
import Derived.RangeFuncNested
import Derived.RangeFuncBox
import Derived.RangeFuncBound
import Derived.RangeFuncCalls
import Derived.RangeFuncLeaves
import Derived.Shelf.Abstract
import Derived.WalkKit
import Derived.OwnWalkIn
import Derived.TacticsInMore
import Derived.LoopNIn
import Derived.LoopIn
import Derived.Maps.AppendAt
import Derived.Maps.OwnIn
import Derived.Deep.QuietTactic
import Derived.BigQuiet
import Derived.WalkSmall
import Derived.Test.YtcbhmnaakoegbaaDoorYx3h
namespace Go.Proofs.YtcbhmnaakoegbaaDoor.Q
open Go Go.RowKit Go.Shelf Go.Proofs.YtcbhmnaakoegbaaDoorW.PrintWords
attribute [local go_sem] Oper.semAt_some

/-- The slots of an operation. -/
def slF (n : Int) : Int := if Ops.formS n = (-1) then 0 else if Ops.formS n = 10 then 2 else if Ops.formS n = 11 then 2 else 1
theorem insn_Slots_f (n : Int) : insn_Slots.f n = some (slF n) := by
  unfold insn_Slots.f ops_Form.f slF
  simp only [Option.bind_some]
  split
  · rfl
  · split
    · rfl
    · split <;> rfl
theorem slF_range (n : Int) : 0 ≤ slF n ∧ slF n ≤ 2 := by unfold slF; split <;> (try split) <;> (try split) <;> omega

/-- The slot at which instruction k starts. -/
def startF (l : List S38) : Nat → Int
  | 0 => 0
  | k + 1 => wrap64 (startF l k + slF (rd_T38 l k).f0)
def pairF (l : List S38) (k : Nat) : Int × Int := (startF l k, startF l (k + 1))
/-- The index of the instruction that starts at a slot, from index k on. -/
def atFrom (l : List S38) (slot : Int) : Nat → Nat → Int
  | 0, _ => -1
  | d + 1, k => if startF l k = slot then k else atFrom l slot d (k + 1)
def atF (l : List S38) (slot : Int) : Int := atFrom l slot l.length 0
def upto {α : Type} (f : Nat → α) (k : Nat) : List α := (List.range k).map f
theorem upto_succ {α : Type} (f : Nat → α) (k : Nat) : upto f (k + 1) = upto f k ++ [f k] := by simp [upto, List.range_succ]
theorem upto_length {α : Type} (f : Nat → α) (k : Nat) : (upto f k).length = k := by simp [upto]

theorem below_grownBy {W W' : World} (h : Below W.heap.size W W') : W.grownBy W' none := ⟨h.os, h.tape, h.output, h.size, fun k hk _ => h.block k hk⟩
theorem abides_below {β : Type} {B : Nat} {J : β → World → Prop} (hJ : AbidesFrom B J) {s : β} {W W' : World} (hs : J s W) (h : Below W.heap.size W W') : J s W' :=
  hJ s W W' none hs (below_grownBy h) (fun r e => by cases e)

set_option maxRecDepth 100000 in
set_option maxHeartbeats 2000000 in
theorem slots1_in (l Bs n₀ : Nat) (A : Option Addr) (c0 : Nat) (xs : List S38) (hlen : xs.length ≤ 65536) (J Jx : List (Int × Int) → World → Prop)
    (hY : ∀ pre x W, J pre W → pre.length < xs.length → YieldAt Fence.wide 7 Tryd.prog l #[.int .i64 x.1, .int .i64 x.2] W fun e W' =>
      (e = .returned (.bool true) ∧ J (pre ++ [x]) W' ∧ Below n₀ W W') ∨ (e = .returned (.bool false) ∧ Jx (pre ++ [x]) W'))
    (W : World) (hJ : AbidesFrom W.heap.size J) (hn₀ : n₀ ≤ W.heap.size) (hBs : W.cell? ⟨Bs, 0, none⟩ = some (.slice A xs.length c0)) (hC : ∀ W', Below n₀ W W' → Kd.C k38 W' A xs.length xs) (hG : ∀ W', Below n₀ W W' → GG W') (h0 : J [] W) :
    CallsIn Fence.wide 8 Tryd.prog 27 #[.func (.yield l) #[] #[], .pointer (some ⟨Bs, 0, none⟩)] W fun e W' => (∃ v, e = .returned v) ∧
      ((∃ ys, ys = upto (pairF xs) xs.length ∧ J ys W') ∨ (∃ pre, (∃ k, k ≤ xs.length ∧ pre = upto (pairF xs) k) ∧ Jx pre W')) := by
  refine callsIn_of_wp Tryd.func27 rfl trivial ?_ rfl
  simp only [Tryd.ntmps27, List.size_toArray, List.length_cons, List.length_nil, Nat.reduceAdd, Nat.reduceSub, Array.replicate_succ, Array.replicate_zero, List.push_toArray, List.append_toArray, List.nil_append, List.cons_append]
  gi_wp2
  gi_loopw [3, 9] (fun s i wr => ∃ k : Nat, k ≤ xs.length ∧ i = .int .i64 k ∧ s = .int .i64 (startF xs k) ∧ J (upto (pairF xs) k) wr ∧ Below n₀ W wr)
    (fun _ i _ => xs.length - (intOf i).toNat)
  case atStart => exact ⟨0, Nat.zero_le _, rfl, rfl, h0, Below.refl _ _⟩
  case round =>
    obtain ⟨k, hk, rfl, rfl, hJs, hnx⟩ := hrel
    by_cases hlt : k < xs.length
    · obtain ⟨ad, e, d0, d1, d2, d3, d4, d5⟩ := at_T38 (hC _ hnx) k (by omega) (by omega)
      subst e
      simp only [Int.toNat_natCast] at d0 d1 d2 d3 d4 d5
      gi_wp2
      have hB1 : Below wr.heap.size wr (wr.alloc (.cells #[.int .i64 (rd_T38 xs k).f0, .bool (rd_T38 xs k).f1, .int .i64 (rd_T38 xs k).f2, .int .i64 (rd_T38 xs k).f3, .int .i64 (rd_T38 xs k).f4, .int .i64 (rd_T38 xs k).f5] 38)) := (Below.refl _ wr).alloc (Nat.le_refl _) _
      have hle := hnx.size
      refine ⟨trivial, (callsIn_wide.2 (insn_Slots.calls _ _ _ (insn_Slots_f _) (hG _ (hnx.trans (hB1.mono (by omega)))))).mono ?_⟩
      rintro e w2 ⟨rfl, hB2⟩
      have hB3 := hB1.trans (hB2.mono hB1.size)
      have hnx2 := hnx.trans (hB3.mono (by omega))
      have hJ2 := abides_below hJ hJs hB3
      clear hB1 hB2 hB3 d0 d1 d2 d3 d4 d5
      obtain ⟨fn, tmps, assign, body, hy, hR⟩ := hY _ (pairF xs k) w2 hJ2 (by rw [upto_length]; exact hlt)
      simp only [pairF, startF] at hy
      gi_wp2
      refine hR.mono ?_
      rintro e W3 (⟨rfl, hJ3, hk3⟩ | ⟨rfl, hJx3⟩)
      · gi_wp2
        go_roundw
        case rel => exact ⟨k + 1, by omega, by go_num, rfl, by rw [upto_succ]; exact hJ3, hnx2.trans hk3⟩
        case measure => have : wrap64 ((k : Int) + 1) = k + 1 := by unfold wrap64; omega
                        simp only [go_sem, this] at *; simp [intOf]; omega
      · gi_wp2
        refine bodyPost_ret (results_none rfl _ _ _) rfl ?_
        exact ⟨⟨_, rfl⟩, .inr ⟨_, ⟨k + 1, by omega, (upto_succ _ _).symm⟩, hJx3⟩⟩
    · obtain rfl : k = xs.length := by omega
      gi_wp2
      go_end0
      exact ⟨⟨_, rfl⟩, .inl ⟨_, rfl, hJs⟩⟩

/-- layout.slots: the list is boxed; the function value captures the box. -/
theorem slots_any (A : Option Addr) (len c0 : Nat) (w : World) :
    CallsIn Fence.wide 8 Tryd.prog 21 #[.slice A len c0] w fun e w' => e = .returned (.func (.func 27) #[] #[.pointer (some ⟨w.heap.size, 0, none⟩)]) ∧ w' = w.alloc (.cells #[.slice A len c0] 29) := by
  refine callsIn_of_wp Tryd.func21 rfl trivial ?_ rfl
  simp only [Tryd.ntmps21, List.size_toArray, List.length_cons, List.length_nil, Nat.reduceAdd, Nat.reduceSub, Array.replicate_succ, Array.replicate_zero, List.push_toArray, List.append_toArray, List.nil_append, List.cons_append]
  gi_wp2
  go_ret
  exact ⟨rfl, rfl⟩

theorem slots_stops (Bs n₀ : Nat) (A : Option Addr) (c0 : Nat) (xs : List S38) (hlen : xs.length ≤ 65536) (w : World) (hBs : Bs < w.heap.size) (hn₀ : n₀ ≤ w.heap.size)
    (hc : w.cell? ⟨Bs, 0, none⟩ = some (.slice A xs.length c0)) (hC : ∀ W', Below n₀ w W' → Kd.C k38 W' A xs.length xs) (hG : ∀ W', Below n₀ w W' → GG W') :
    SeqStopsK Fence.wide 8 Tryd.prog 27 #[.pointer (some ⟨Bs, 0, none⟩)] (fun x : Int × Int => #[Value.int .i64 x.1, Value.int .i64 x.2]) (Below n₀) (fun ys => ys = upto (pairF xs) xs.length)
      (fun pre => ∃ k, k ≤ xs.length ∧ pre = upto (pairF xs) k) xs.length w := fun l J Jx W hW hJ _ hY h0 =>
  slots1_in l Bs n₀ A c0 xs hlen J Jx hY W hJ (Nat.le_trans hn₀ hW.size) ((hW.cell (p := ⟨Bs, 0, none⟩) hBs).trans hc) (fun W' h => hC W' ((hW.mono hn₀).trans h)) (fun W' h => hG W' ((hW.mono hn₀).trans h)) h0


theorem atFrom_hit (l : List S38) (slot : Int) : ∀ (d k m : Nat), k ≤ m → m < k + d → (∀ j, k ≤ j → j < m → startF l j ≠ slot) → startF l m = slot → atFrom l slot d k = m
  | 0, k, m, _, _, _, _ => by omega
  | d + 1, k, m, h1, h2, h3, h4 => by
    unfold atFrom
    by_cases e : k = m
    · subst e; rw [if_pos h4]
    · rw [if_neg (h3 k (Nat.le_refl _) (by omega))]
      exact atFrom_hit l slot d (k + 1) m (by omega) (by omega) (fun j a b => h3 j (by omega) b) h4
theorem atFrom_miss (l : List S38) (slot : Int) : ∀ (d k : Nat), (∀ j, k ≤ j → j < k + d → startF l j ≠ slot) → atFrom l slot d k = -1
  | 0, _, _ => rfl
  | d + 1, k, h => by
    unfold atFrom
    rw [if_neg (h k (Nat.le_refl _) (by omega))]
    exact atFrom_miss l slot d (k + 1) (fun j a b => h j (by omega) (by omega))
theorem mem_upto {α : Type} {f : Nat → α} {k j : Nat} (h : j < k) : f j ∈ upto f k := by
  simp only [upto, List.mem_map, List.mem_range]
  exact ⟨j, h, rfl⟩
theorem cell_at {w : World} {b : Nat} {v : Value} (o : Obj) (h : w.cell? ⟨b, 0, none⟩ = some v) (hb : b < w.heap.size) : (w.alloc o).cell? ⟨b, 0, none⟩ = some v :=
  (Below.cell (B := w.heap.size) ((Below.refl _ w).alloc (Nat.le_refl _) o) (p := ⟨b, 0, none⟩) hb).trans h

set_option maxRecDepth 100000 in
set_option maxHeartbeats 2000000 in
theorem At_in (A : Option Addr) (c0 : Nat) (xs : List S38) (hlen : xs.length ≤ 65536) (slot : Int) (w : World) (hC : Kd.C k38 w A xs.length xs) (hG : GG w) :
    CallsIn Fence.wide 9 Tryd.prog 16 #[.slice A xs.length c0, .int .i64 slot] w fun e W' => e = .returned (.int .i64 (atF xs slot)) ∧ Below w.heap.size w W' := by
  refine callsIn_of_wp_marks Tryd.func16 rfl trivial ?_ rfl
  simp only [Tryd.ntmps16, List.size_toArray, List.length_cons, List.length_nil, Nat.reduceAdd, Nat.reduceSub, Array.replicate_succ, Array.replicate_zero, List.push_toArray, List.append_toArray, List.nil_append, List.cons_append]
  gi_wp2
  refine ⟨trivial, (slots_any _ _ _ _).mono ?_⟩
  rintro e w' ⟨rfl, rfl⟩
  have bS := Boxed.new w 3 (.int .i64 slot)
  have bR := Boxed.new (w.alloc (.cells #[.int .i64 slot] 3)) 3 (.int .i64 0)
  have bI := Boxed.new ((w.alloc (.cells #[.int .i64 slot] 3)).alloc (.cells #[.int .i64 0] 3)) 3 (.int .i64 0)
  have bN := Boxed.new (((w.alloc (.cells #[.int .i64 slot] 3)).alloc (.cells #[.int .i64 0] 3)).alloc (.cells #[.int .i64 0] 3)) 29 (.slice A xs.length c0)
  have hB0 : Below w.heap.size w ((((w.alloc (.cells #[.int .i64 slot] 3)).alloc (.cells #[.int .i64 0] 3)).alloc (.cells #[.int .i64 0] 3)).alloc (.cells #[.slice A xs.length c0] 29)) :=
    ((((Below.refl _ w).alloc (Nat.le_refl _) _).alloc (by simp) _).alloc (by simp; omega) _).alloc (by simp; omega) _
  have bS := ((bS.alloc (.cells #[.int .i64 0] 3)).alloc (.cells #[.int .i64 0] 3)).alloc (.cells #[.slice A xs.length c0] 29)
  have bR := (bR.alloc (.cells #[.int .i64 0] 3)).alloc (.cells #[.slice A xs.length c0] 29)
  have bI := bI.alloc (.cells #[.slice A xs.length c0] 29)
  simp only [World.size_alloc] at bR bI bN
  gi_wp2
  refine wpIn_rangeFunc_ownG rfl (by omega) (gf := 27) (lb := #[.pointer (some ⟨w.heap.size + 1 + 1 + 1, 0, none⟩)]) rfl trivial (enters_of Tryd.func27 (by kernel_rfl) rfl)
    (slots_stops (w.heap.size + 1 + 1 + 1) w.heap.size A c0 xs hlen _ (by simp) (by simp; omega) bN.cell (fun W' h => Kd.C_below hC (hB0.trans h)) (fun W' h => G_at hG (hB0.trans h))) belowK_t (belowK_b (by simp; omega)) (Below.refl _ _) (fun _ => rfl)
    (fun pre W => ((∀ p ∈ pre, p.1 ≠ slot) ∧ pre.length ≤ 65536 ∧ W.cell? ⟨w.heap.size, 0, none⟩ = some (.int .i64 slot) ∧ (W.cell? ⟨w.heap.size + 1, 0, none⟩ = some (.int .i64 0) ∧ W.frozen? ⟨w.heap.size + 1, 0, none⟩ = false) ∧
      W.cell? ⟨w.heap.size + 1 + 1, 0, none⟩ = some (.int .i64 pre.length) ∧ W.frozen? ⟨w.heap.size + 1 + 1, 0, none⟩ = false) ∧ Below w.heap.size w W)
    (fun c pre W => (c = .ret ∧ ∃ ini last, pre = ini ++ [last] ∧ (∀ p ∈ ini, p.1 ≠ slot) ∧ last.1 = slot ∧ W.cell? ⟨w.heap.size + 1, 0, none⟩ = some (.int .i64 ini.length)) ∧ Below w.heap.size w W)
    (OwnFrom.and (Own.from (fun s A B row hs hg hr => ⟨hs.1, hs.2.1, cell_kept hs.2.2.1 hg hr, ⟨cell_kept hs.2.2.2.1.1 hg hr, (frozen_kept hs.2.2.2.1.1 hg hr).trans hs.2.2.2.1.2⟩, cell_kept hs.2.2.2.2.1 hg hr, (frozen_kept hs.2.2.2.2.1 hg hr).trans hs.2.2.2.2.2⟩) _) (ownFrom_below (Nat.le_refl _) (by simp; omega)))
    (fun c => OwnFrom.and (Own.from (fun s A B row hs hg hr => by obtain ⟨hc, ini, last, e1, e2, e3, e4⟩ := hs; exact ⟨hc, ini, last, e1, e2, e3, cell_kept e4 hg hr⟩) _) (ownFrom_below (Nat.le_refl _) (by simp; omega)))
    ⟨⟨by simp, by simp, bS.cell, ⟨bR.cell, bR.frozen⟩, bI.cell, bI.frozen⟩, hB0⟩
    (fun x => { tmps := #[.slice A xs.length c0, .int .i64 slot, undef, .pointer (some ⟨w.heap.size, 0, none⟩), .pointer (some ⟨w.heap.size + 1, 0, none⟩), .pointer (some ⟨w.heap.size + 1 + 1, 0, none⟩), .int .i64 x.1, .slice A xs.length c0, .func (.func 27) #[] #[.pointer (some ⟨w.heap.size + 1 + 1 + 1, 0, none⟩)], .int .i64 x.1, .int .i64 x.2, undef, undef, undef, undef, undef, undef], defers := [] }) ?assign ?body ?done ?stop
  case assign =>
    intro l x W K hK
    gi_wp2
    exact hK
  case body =>
    rintro l pre x W ⟨⟨hp, hpl, hcs, ⟨hcr, hfr⟩, hci, hfi⟩, hB⟩ hlt
    gi_wp2
    · rename_i hx
      exact ⟨(KeepsOthers.setCell _ _ _).from _, ⟨rfl, pre, x, rfl, hp, eq_of_beq hx, World.cell?_setCell_same' _ _ _ (by rw [hcr]; rfl)⟩, hB.setCell (p := ⟨w.heap.size + 1, 0, none⟩) (by simp) _⟩
    · rename_i hx
      refine ⟨(KeepsOthers.setCell _ _ _).from _, (Below.refl _ _).setCell (p := ⟨w.heap.size + 1 + 1, 0, none⟩) (by simp; omega) _, ⟨fun p hp' => ?_, by simp; omega, ?_, ⟨?_, ?_⟩, ?_, ?_⟩, hB.setCell (p := ⟨w.heap.size + 1 + 1, 0, none⟩) (by simp; omega) _⟩
      · rcases List.mem_append.1 hp' with h | h
        · exact hp p h
        · rw [List.mem_singleton] at h
          subst h
          exact fun e => by rw [e] at hx; simp at hx
      · rw [World.cell?_setCell_far _ _ _ _ (by simp; omega)]; exact hcs
      · rw [World.cell?_setCell_far _ _ _ _ (by simp)]; exact hcr
      · rw [World.frozen?_setCell]; exact hfr
      · rw [World.cell?_setCell_same' _ _ _ (by rw [hci]; rfl)]; simp
      · rw [World.frozen?_setCell]; exact hfi
  case done =>
    rintro D ys W hD rfl ⟨⟨hne, _, hcs, ⟨hcr, hfr⟩, hci, hfi⟩, hB⟩ hK
    gi_wp2
    have hK' := (KeepsOthers.setCell W ⟨w.heap.size + 1, 0, none⟩ (.int .i64 (-1))).same D _ hK rfl
    refine ⟨by simp, .inl ⟨_, _, rfl, run_takeDeferred hK', ?_⟩⟩
    have hc5 := cell_kept (World.cell?_setCell_same' W ⟨w.heap.size + 1, 0, none⟩ (.int .i64 (-1)) (by rw [hcr]; rfl)) (grownBy_putObj' _ D (.deferred none)) (fun r e => by cases e; exact ⟨_, hK', rfl⟩)
    have hat : atF xs slot = -1 := atFrom_miss xs slot _ _ (fun j _ hj => hne (pairF xs j) (mem_upto (by omega)))
    refine ⟨.int .i64 (-1), ?_, by rw [hat], (hB.setCell (p := ⟨w.heap.size + 1, 0, none⟩) (by simp) _).trans (belowK_b (w := w) (Nat.le_refl _) _ D _ _ (by simp at hD; omega) hK' rfl rfl)⟩
    simp [results, Tryd.f16, go_sem, hc5]
  case stop =>
    rintro D c pre W hD ⟨k, hk, rfl⟩ ⟨⟨rfl, ini, last, e1, e2, e3, hcr⟩, hB⟩ hK
    gi_wp2
    refine ⟨by simp, .inl ⟨_, _, rfl, run_takeDeferred hK, ?_⟩⟩
    have hc5 := cell_kept hcr (grownBy_putObj' _ D (.deferred none)) (fun r e => by cases e; exact ⟨_, hK, rfl⟩)
    obtain ⟨k', rfl⟩ : ∃ k', k = k' + 1 := by
      cases k with
      | zero => simp [upto] at e1
      | succ k' => exact ⟨k', rfl⟩
    rw [upto_succ] at e1
    obtain ⟨rfl, e5⟩ := List.append_inj' e1 rfl
    obtain rfl : pairF xs k' = last := by simpa using e5
    have hat : atF xs slot = k' := atFrom_hit xs slot _ _ k' (Nat.zero_le _) (by omega) (fun j _ hj => e2 (pairF xs j) (mem_upto hj)) e3
    rw [upto_length] at hc5
    refine ⟨.int .i64 (k' : Int), ?_, by rw [hat], hB.trans (belowK_b (w := w) (Nat.le_refl _) W D _ _ (by simp at hD; omega) hK rfl rfl)⟩
    simp [results, Tryd.f16, go_sem, hc5]

/-- Where a walk is to wait. -/
def Dbg (p : Prop) : Prop := p
theorem dbg {p : Prop} (h : Dbg p) : p := h
theorem infoI : (Tryd.prog.info? 3).map (fun i => (i.zero, i.size, i.bytes)) = some (some (.int .i64 0), 1, 8) := by kernel_rfl
def firsts (pre : List (Int × Int)) : List Int := pre.map Prod.fst
def lastTo (pre : List (Int × Int)) : Int := (pre.getLast?.map Prod.snd).getD 0
theorem firsts_snoc (pre : List (Int × Int)) (x : Int × Int) : firsts (pre ++ [x]) = firsts pre ++ [x.1] := by simp [firsts]
theorem lastTo_snoc (pre : List (Int × Int)) (x : Int × Int) : lastTo (pre ++ [x]) = x.2 := by simp [lastTo]
def startsF (l : List S38) : List Int := (List.range l.length).map (startF l)
theorem firsts_upto (l : List S38) (k : Nat) : firsts (upto (pairF l) k) = (List.range k).map (startF l) := by simp [firsts, upto, pairF]
theorem lastTo_upto (l : List S38) : ∀ k, lastTo (upto (pairF l) k) = startF l k
  | 0 => rfl
  | k + 1 => by rw [upto_succ, lastTo_snoc]; rfl
theorem firsts_length (pre : List (Int × Int)) : (firsts pre).length = pre.length := by simp [firsts]

set_option maxRecDepth 100000 in
set_option maxHeartbeats 2000000 in
theorem Starts_in (A : Option Addr) (c0 : Nat) (xs : List S38) (hlen : xs.length ≤ 65536) (w : World) (hC : Kd.C k38 w A xs.length xs) (hG : GG w) :
    CallsIn Fence.wide 9 Tryd.prog 12 #[.slice A xs.length c0] w fun e W' => ∃ v, e = .returned (.tuple #[v, .int .i64 (startF xs xs.length)]) ∧ W'.ownsRow w.heap.size 3 1 v xs.length ((startsF xs).map (Value.int .i64)) ∧ Below w.heap.size w W' := by
  obtain ⟨i0, hi, hz0, hz1, hz2⟩ := info_parts infoI
  refine callsIn_of_wp_marks Tryd.func12 rfl trivial ?_ rfl
  simp only [Tryd.ntmps12, List.size_toArray, List.length_cons, List.length_nil, Nat.reduceAdd, Nat.reduceSub, Array.replicate_succ, Array.replicate_zero, List.push_toArray, List.append_toArray, List.nil_append, List.cons_append]
  gi_wp2
  refine ⟨trivial, (slots_any _ _ _ _).mono ?_⟩
  rintro e w' ⟨rfl, rfl⟩
  have bO := Boxed.new w 41 (.slice none 0 0)
  have bE := Boxed.new (w.alloc (.cells #[.slice none 0 0] 41)) 3 (.int .i64 0)
  have bN := Boxed.new ((w.alloc (.cells #[.slice none 0 0] 41)).alloc (.cells #[.int .i64 0] 3)) 29 (.slice A xs.length c0)
  have hB0 : Below w.heap.size w (((w.alloc (.cells #[.slice none 0 0] 41)).alloc (.cells #[.int .i64 0] 3)).alloc (.cells #[.slice A xs.length c0] 29)) :=
    (((Below.refl _ w).alloc (Nat.le_refl _) _).alloc (by simp) _).alloc (by simp; omega) _
  have bO := (bO.alloc (.cells #[.int .i64 0] 3)).alloc (.cells #[.slice A xs.length c0] 29)
  have bE := bE.alloc (.cells #[.slice A xs.length c0] 29)
  simp only [World.size_alloc] at bE bN
  gi_wp2
  refine wpIn_rangeFunc_ownG rfl (by omega) (gf := 27) (lb := #[.pointer (some ⟨w.heap.size + 1 + 1, 0, none⟩)]) rfl trivial (enters_of Tryd.func27 (by kernel_rfl) rfl)
    (slots_stops (w.heap.size + 1 + 1) w.heap.size A c0 xs hlen _ (by simp) (by simp; omega) bN.cell (fun W' h => Kd.C_below hC (hB0.trans h)) (fun W' h => G_at hG (hB0.trans h))) belowK_t (belowK_b (by simp; omega)) (Below.refl _ _) (fun _ => rfl)
    (fun pre W => ((∃ v, Boxed W w.heap.size 41 v ∧ W.ownsRow w.heap.size 3 1 v pre.length ((firsts pre).map (Value.int .i64)) ∧ (v.ownBlock ≠ some (w.heap.size + 1))) ∧ Boxed W (w.heap.size + 1) 3 (.int .i64 (lastTo pre))) ∧ Below w.heap.size w W)
    (fun _ _ _ => False)
    (OwnFrom.and (OwnFrom.and (Own.from (holdsRow_own w.heap.size w.heap.size 41 3 1 (fun pre => pre.length) (fun pre => (firsts pre).map (Value.int .i64)) (fun pre v => v.ownBlock ≠ some (w.heap.size + 1))) _) (Own.from (boxed_own _ _ _) _)) (ownFrom_below (Nat.le_refl _) (by simp; omega)))
    (fun _ _ _ _ _ hs _ _ => hs)
    ⟨⟨⟨_, bO, World.ownsRow_nil _ _ _ _, by simp [Value.ownBlock]⟩, bE⟩, hB0⟩
    (fun x => { tmps := #[.slice A xs.length c0, undef, .slice none 0 0, .int .i64 0, .pointer (some ⟨w.heap.size, 0, none⟩), .pointer (some ⟨w.heap.size + 1, 0, none⟩), .int .i64 x.1, .int .i64 x.2, .slice A xs.length c0, .func (.func 27) #[] #[.pointer (some ⟨w.heap.size + 1 + 1, 0, none⟩)], .int .i64 x.1, .int .i64 x.2, undef, undef, undef, undef, undef, undef, undef], defers := [] }) ?assign ?body ?done ?stop
  case assign =>
    intro l x W K hK
    gi_wp2
    exact hK
  case body =>
    rintro l pre x W ⟨⟨⟨v, hv, hrow, hne⟩, hE⟩, hB⟩ hlt
    have hc := hv.cell
    have hc2 := hE.cell
    have hfl : (firsts pre).length = pre.length := firsts_length pre
    gi_wp2_with (gi_at_builtin; refine dbg ?_)
    unfold Dbg
    refine wpListIn_append_own_at _ rfl _ _ 41 rfl w.heap.size 3 i0 (.int .i64 0) 1 8 Tryd.underlying41 hi hz0 hz1 hz2 rfl (by decide) _ _ _ rfl (hrow.alloc _) ⟨W.heap.size, 0, none⟩ 1 1 [.int .i64 x.1] rfl rfl (cell_one_new _ _ _) (by simp [Value.oneCell']) (by unfold maxLen; omega) (by omega) (by have := hB.size; simp; omega) ?_
    intro v' w1 hown' hgrow _ hob
    have hE1 := (hE.alloc _).kept hgrow hne.symm
    have hne' : v'.ownBlock ≠ some (w.heap.size + 1) := by
      rcases hob with e | e
      · rw [e]; exact hne
      · rw [e]
        have := hE.lt
        simp
        omega
    obtain ⟨g', cap', rfl⟩ := ownsRow_succ hown'
    obtain ⟨hv1, hv2, hr2, hk2, hb2⟩ := hv.appended (by decide) hrow hB.size (Nat.le_refl _) hown' hgrow
    have hc1 := hv1.cell
    have hf1 := hv1.frozen
    have hE2 := hE1.other (B' := w.heap.size) (by simp) (.slice (some ⟨g', 0, none⟩) (pre.length + 1) cap')
    have hc3 := hE2.cell
    have hf3 := hE2.frozen
    clear hob hgrow
    gi_wp2
    refine ⟨(hk2.trans (KeepsOthers.setCell _ _ _)).from _, hb2.setCell (p := ⟨w.heap.size + 1, 0, none⟩) (by simp) _, ⟨⟨_, hv2.other (by simp) _, ?_, hne'⟩, ?_⟩, (hB.trans hb2).setCell (p := ⟨w.heap.size + 1, 0, none⟩) (by simp) _⟩
    · rw [firsts_snoc, List.map_append, List.length_append]
      exact hr2.kept (grownBy_setCell' _ _ _) (.inr hne')
    · rw [lastTo_snoc]
      exact hE2.set _
  case done =>
    rintro D ys W hD rfl ⟨⟨⟨v, hv, hrow, hne⟩, hE⟩, hB⟩ hK
    have hc := hv.cell
    have hc2 := hE.cell
    gi_wp2
    refine wpIn_wide.2 ?_
    go_quiet (fail)
    gi_wp2
    have hK2 : (W.drewN nq).heap[D]? = some (.deferred (some [])) := hK
    have hrow2 : (W.drewN nq).ownsRow w.heap.size 3 1 v (upto (pairF xs) xs.length).length ((firsts (upto (pairF xs) xs.length)).map (Value.int .i64)) := hrow
    rw [firsts_upto, upto_length] at hrow2
    refine ⟨by simp, .inl ⟨_, _, rfl, run_takeDeferred hK2, ?_⟩⟩
    refine ⟨.tuple #[v, .int .i64 (startF xs xs.length)], ?_, v, rfl, ownsRow_putObj hrow2 _ hK2 rfl, (pw_below_drewN hB nq).trans (belowK_b (w := w) (Nat.le_refl _) _ D _ _ (by simp at hD; omega) hK2 rfl rfl)⟩
    rw [← lastTo_upto]
    simp [results, Tryd.f12, go_sem]
  case stop =>
    rintro D c pre W _ _ h _
    exact h.elim

theorem reps_ints (w : World) (base : Nat) (ok : Nat → Prop) (xs : List Int) : Reps ((Kd.int .i64).M w base ok) 1 xs (xs.map (Value.int .i64)) := by
  refine ⟨by simp, fun j p h => ?_⟩
  show ((xs.map (Value.int .i64)).drop (j * 1)).take 1 = [.int .i64 p]
  rw [Nat.mul_one, ← List.map_drop, ← List.map_take]
  have hj := (List.getElem?_eq_some_iff.1 h)
  obtain ⟨hlt, rfl⟩ := hj
  rw [List.drop_eq_getElem_cons hlt]
  rfl

def layout_Starts.f (l0 : List S38) : Option (List Int × Int) := if l0.length ≤ 65536 then some (startsF l0, startF l0 l0.length) else none
theorem layout_Starts.calls (A0 : Option Addr) (c0 : Nat) (l0 : List S38) (r0 : List Int) (r1 : Int) (w : World) (hr0 : Kd.C k38 w A0 l0.length l0) (_ : l0.length ≤ c0) (h : layout_Starts.f l0 = some (r0, r1)) (hG : GG w) :
    Calls Tryd.prog 12 #[.slice A0 l0.length c0] w fun e w' => ∃ v0_ : Value, e = .returned (.tuple #[v0_, .int .i64 r1]) ∧ Kd.R (Kd.int .i64) 3 w' w.heap.size (fun _ => True) v0_ r0 ∧ Below w.heap.size w w' := by
  unfold layout_Starts.f at h
  split at h
  · rename_i hlen
    have h := Option.some.inj h
    simp only [Prod.mk.injEq] at h
    obtain ⟨rfl, rfl⟩ := h
    refine (callsIn_wide.1 (Starts_in A0 c0 l0 hlen w hr0 hG)).mono ?_
    rintro e w' ⟨v, rfl, hrow, hb⟩
    refine ⟨v, rfl, ⟨fun _ _ => trivial, _, ?_, reps_ints _ _ _ _⟩, hb⟩
    have : (startsF l0).length = l0.length := by simp [startsF]
    rw [this]
    exact hrow
  · cases h

def layout_At.f (l0 : List S38) (a1 : Int) : Option Int := if l0.length ≤ 65536 then some (atF l0 a1) else none
theorem layout_At.calls (A0 : Option Addr) (c0 : Nat) (l0 : List S38) (a1 : Int) (r : Int) (w : World) (hr0 : Kd.C k38 w A0 l0.length l0) (_ : l0.length ≤ c0) (h : layout_At.f l0 a1 = some r) (hG : GG w) :
    Calls Tryd.prog 16 #[.slice A0 l0.length c0, .int .i64 a1] w fun e w' => e = .returned (.int .i64 r) ∧ Below w.heap.size w w' := by
  unfold layout_At.f at h
  split at h
  · rename_i hlen
    obtain rfl := Option.some.inj h
    exact callsIn_wide.1 (At_in A0 c0 l0 hlen a1 w hr0 hG)
  · cases h
end Go.Proofs.YtcbhmnaakoegbaaDoor.Q
