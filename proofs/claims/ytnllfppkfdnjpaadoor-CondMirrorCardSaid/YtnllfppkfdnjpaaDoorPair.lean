/- cond.pair, cond.Opposite, cond.Mirror: the operation whose condition is paired with that of an operation. -/
import Derived.Test.YtnllfppkfdnjpaaDoorGiven
import Derived.Maps.RangeWalk
import Derived.Maps.OwnSet
import Derived.Test.YtnllfppkfdnjpaaDoorWSized
namespace Go.Proofs.YtnllfppkfdnjpaaDoor.Q
open Go Go.RowKit Go.Maps Go.Proofs.YtnllfppkfdnjpaaDoor.Ops Go.Proofs.YtnllfppkfdnjpaaDoorW.PrintWords

def oppL : List Int := [4, 8, 7, -1, 0, 10, 9, 2, 1, 6, 5]
def mirL : List Int := [0, 7, 8, 3, 4, 9, 10, 1, 2, 5, 6]
def mate (l : List Int) (i : Int) : Option Int := if 0 ≤ i ∧ i < 11 then (if (l[i.toNat]?.getD 0) < 0 then none else some (l[i.toNat]?.getD 0)) else none
def pairF (l : List Int) (op : Int) : Int × Bool :=
  if formS op = 4 then (match mate l (Int.tmod (wrap64 (op - 45)) 11) with | some j => (wrap64 (wrap64 (op - Int.tmod (wrap64 (op - 45)) 11) + j), true) | none => (0, false)) else (0, false)
abbrev ki (x : Int) : Lit := .int .i64 x
abbrev di (x : Int) : DataW Unit := .lit (.int .i64 x)

structure Mates (D0 : DataW Unit) (l : List Int) : Prop where
  sound : ∀ x y, (∀ zd, D0.atKey (ki x) zd = di y) → mate l x = some y ∧ mate l y = some x
  full : ∀ x y, mate l x = some y → mate l y = some x ∧ (has D0 (ki x) = true ∨ has D0 (ki y) = true)
  size : size D0 ≤ 7
/-- What 'both' holds: of the pairs that have come, both ways. -/
structure Both (D0 Dout : DataW Unit) (l : List Int) (left : Lit → Bool) : Prop where
  isMap : IsMap Dout
  sound : ∀ x, has Dout (ki x) = true → ∃ y, mate l x = some y ∧ ∀ zd, Dout.atKey (ki x) zd = di y
  full : ∀ x y, mate l x = some y → has D0 (ki x) = true → left (ki x) = false → has Dout (ki x) = true ∧ has Dout (ki y) = true
theorem both_start (D0 : DataW Unit) (l : List Int) : Both D0 (.map []) l (has D0) :=
  ⟨⟨[], rfl⟩, (fun x h => by cases h), (fun x y _ h1 h2 => by rw [h1] at h2; cases h2)⟩
theorem kk (x : Int) : WideAt.IsKeyLit (ki x) := trivial
theorem ki_ne {x y : Int} (h : x ≠ y) : ki x ≠ ki y := fun e => h (by injection e)
theorem both_put {D0 Dout : DataW Unit} {l : List Int} {left : Lit → Bool} (h : Both D0 Dout l left) {x y : Int} (hm : mate l x = some y) : Both D0 (Dout.put (ki x) (di y)) l left := by
  refine ⟨h.isMap.put _ _, fun z hz => ?_, fun z u hzu h1 h2 => ?_⟩
  · by_cases e : z = x
    · subst e
      exact ⟨y, hm, fun zd => atKey_put_same h.isMap (kk _) _ _⟩
    · rw [has_put_other (ki_ne e)] at hz
      obtain ⟨u, hu, hat⟩ := h.sound z hz
      exact ⟨u, hu, fun zd => by rw [atKey_put_other (ki_ne e)]; exact hat zd⟩
  · obtain ⟨k1, k2⟩ := h.full z u hzu h1 h2
    have hp : ∀ v, has Dout (ki v) = true → has (Dout.put (ki x) (di y)) (ki v) = true := fun v hv => by
      by_cases e : v = x
      · subst e; exact has_put_same h.isMap (kk _) _
      · rw [has_put_other (ki_ne e)]; exact hv
    exact ⟨hp z k1, hp u k2⟩
theorem both_step {D0 Dout : DataW Unit} {l : List Int} {left : Lit → Bool} (hM : Mates D0 l) (h : Both D0 Dout l left) {x y : Int} (hat : ∀ zd, D0.atKey (ki x) zd = di y) :
    Both D0 ((Dout.put (ki x) (di y)).put (ki y) (di x)) l (fun z => left z && !z.sameKey (ki x)) := by
  obtain ⟨m1, m2⟩ := hM.sound x y hat
  have h2 := both_put (both_put h m1) m2
  refine ⟨h2.isMap, h2.sound, fun z u hzu k1 k2 => ?_⟩
  by_cases e : z = x
  · subst e
    obtain rfl : y = u := by rw [m1] at hzu; exact Option.some.inj hzu
    refine ⟨?_, has_put_same (h.isMap.put _ _) (kk _) _⟩
    by_cases e2 : z = y
    · subst e2; exact has_put_same (h.isMap.put _ _) (kk _) _
    · rw [has_put_other (ki_ne e2)]; exact has_put_same h.isMap (kk _) _
  · refine h2.full z u hzu k1 ?_
    rw [sameKey_ne (ki_ne e)] at k2
    simpa using k2
theorem both_end {D0 Dout : DataW Unit} {l : List Int} {left : Lit → Bool} (hM : Mates D0 l) (hl : ∀ k, left k = false) (h : Both D0 Dout l left) (i : Int) :
    (mate l i = none ∧ has Dout (ki i) = false) ∨ ∃ j, mate l i = some j ∧ has Dout (ki i) = true ∧ ∀ zd, Dout.atKey (ki i) zd = di j := by
  cases hm : mate l i with
  | none =>
    left
    refine ⟨rfl, ?_⟩
    cases hh : has Dout (ki i) with
    | false => rfl
    | true => obtain ⟨y, hy, _⟩ := h.sound i hh; rw [hm] at hy; cases hy
  | some j =>
    right
    have hh : has Dout (ki i) = true := by
      obtain ⟨hm2, k | k⟩ := hM.full i j hm
      · exact (h.full i j hm k (hl _)).1
      · exact (h.full j i hm2 k (hl _)).2
    obtain ⟨y, hy, hat⟩ := h.sound i hh
    obtain rfl : j = y := by rw [hm] at hy; exact Option.some.inj hy
    exact ⟨j, rfl, hh, hat⟩

theorem tmod11 (x : Int) : -10 ≤ Int.tmod x 11 ∧ Int.tmod x 11 ≤ 10 := by
  have h1 := Int.tmod_lt_of_pos x (show (0:Int) < 11 by omega)
  have h2 := Int.lt_tmod_of_pos x (show (0:Int) < 11 by omega)
  omega
theorem lawI : Keyed Tryd.prog 3 := int_keyed Tryd.underlying3
theorem zeroI (w : World) : (zeroValue 3).run Tryd.prog w = .ok (.int .i64 0) w := by kernel_rfl

set_option maxRecDepth 100000 in
set_option maxHeartbeats 1000000 in
theorem pair_any (op : Int) (l : List Int) (b n : Nat) (D0 : DataW Unit) (w : World) (hown : w.ownsMap Tryd.prog 3 (plainElem Tryd.prog 3) b n D0) (hM : Mates D0 l) (hG : GG w) :
    Calls Tryd.prog 52 #[.int .i64 op, .map (some b)] w fun e w' => e = .returned (.tuple #[.int .i64 (pairF l op).1, .bool (pairF l op).2]) ∧ Below w.heap.size w w' := by
  have hmm := @run_makeMap Tryd.prog
  have hbl := hown.lt
  go_enter Tryd.func52, Tryd.ntmps52
  go_wp2_with fail
  refine (ops_Form.calls op (formS op) _ rfl hG).mono ?_
  rintro e w1 ⟨rfl, hb⟩
  by_cases h4 : formS op = 4
  · have h41 : (formS op != 4) = false := by simp [h4]
    have e1 : (w1.alloc (.map #[] 0)).heap.size = w1.heap.size + 1 := by simp
    have hown1 : w1.ownsMap Tryd.prog 3 (plainElem Tryd.prog 3) b n D0 := hown.kept (row := none) ⟨hb.os, hb.tape, hb.output, hb.size, fun j hj _ => hb.block j hj⟩ (by simp)
    have hb1 := hown1.lt
    go_wp2_with (first
      | (at_range; refine wpList_range_own _ rfl _ 62 rfl 3 3 lawI Tryd.underlying62 _ b n D0 rfl (hown1.alloc _) ?_; intro w0 hrg0 hg0 hs0)
      | go_in)
    go_frame
    rw [e1] at hrg0 hs0 ⊢
    go_loopw [7] (fun _ wr => ∃ (left : Lit → Bool) (cnt m : Nat) (Dout : DataW Unit), wr.ranges Tryd.prog 3 (plainElem Tryd.prog 3) b (w1.heap.size + 1) n D0 left cnt ∧ cnt ≤ 7 ∧ m + 2 * cnt ≤ 14 ∧
        wr.ownsMap Tryd.prog 3 (plainElem Tryd.prog 3) w1.heap.size m Dout ∧ Both D0 Dout l left ∧ Below w1.heap.size w1 wr)
      (fun _ wr => wr.rangeLeft b (w1.heap.size + 1))
    case atStart =>
      exact ⟨_, _, 0, .map [], hrg0, hM.size, by have := hM.size; omega, (World.ownsMap_made _ _ _ _).kept hg0 (by simp), both_start D0 l, ((Below.refl _ _).alloc (Nat.le_refl _) _).grown hg0 (by simp) (fun j hj => by cases hj)⟩
    case round =>
      obtain ⟨left, cnt, m, Dout, hrg, hcs, hm, hout, hB, hnx⟩ := hrel
      go_wp2_with (first
        | (at_next; refine wpList_next_ranges_ii _ rfl _ rfl 3 3 .i64 .i64 lawI Tryd.underlying3 Tryd.underlying3 b (w1.heap.size + 1) n _ _ _ rfl hrg ?_ ?_)
        | go_in)
      · intro hc0 hl0
        have hw : (Lit.int .i64 (Int.tmod (wrap64 (op - 45)) 11)).wf = true := WalkArith.wf_i64 (by have := tmod11 (wrap64 (op - 45)); omega)
        obtain ⟨i, hi⟩ : ∃ i, Int.tmod (wrap64 (op - 45)) 11 = i := ⟨_, rfl⟩
        rw [hi] at hw
        rcases both_end hM hl0 hB i with ⟨hmt, hh⟩ | ⟨j, hmt, hh, hat0⟩
        · have hh2 : has Dout (.int .i64 i) = false := hh
          go_wp2_with (first
            | (at_lookup; refine wpList_lookup_own_ok_int _ rfl _ _ 62 rfl 3 3 .i64 lawI Tryd.underlying62 Tryd.underlying3 (zeroI _) w1.heap.size _ _ rfl hout _ (.int .i64 i) rfl (keyOf_int_mk Tryd.underlying3 hw) ?_; intro c hat hwc)
            | go_in)
          go_ret2
          exact ⟨by rw [pairF, if_pos h4, hi, hmt]; rfl, hb.trans (hnx.mono hb.size)⟩
        · have hh2 : has Dout (.int .i64 i) = true := hh
          go_wp2_with (first
            | (at_lookup; refine wpList_lookup_own_ok_int _ rfl _ _ 62 rfl 3 3 .i64 lawI Tryd.underlying62 Tryd.underlying3 (zeroI _) w1.heap.size _ _ rfl hout _ (.int .i64 i) rfl (keyOf_int_mk Tryd.underlying3 hw) ?_; intro c hat hwc)
            | go_in)
          obtain rfl : c = j := by
            have := hat.symm.trans (hat0 _)
            injection this with e1; injection e1
          go_ret2
          exact ⟨by rw [pairF, if_pos h4, hi, hmt]; rfl, hb.trans (hnx.mono hb.size)⟩
      · intro x c w2 cnt1 hwx hwc hlx hat hrg1 hlt hg1 hs1 hen
        have hout1 := hout.kept hg1 (by simp)
        go_wp2_with (first
          | (at_mapUpdate; refine wpList_mapUpdate_own _ rfl _ _ _ 62 rfl 3 3 lawI Tryd.underlying62 _ w1.heap.size _ _ rfl hout1 (by unfold maxLen; omega) _ _ _ rfl rfl (keyOf_int_mk Tryd.underlying3 hwx) _ [] (plainElem_int Tryd.underlying3 hwc) ?_; intro w3 hout2 hg2)
          | (at_mapUpdate; refine wpList_mapUpdate_own _ rfl _ _ _ 62 rfl 3 3 lawI Tryd.underlying62 _ w1.heap.size _ _ rfl hout2 (by unfold maxLen; omega) _ _ _ rfl rfl (keyOf_int_mk Tryd.underlying3 hwc) _ [] (plainElem_int Tryd.underlying3 hwx) ?_; intro w4 hout3 hg3; go_frame)
          | go_in)
        have hrg2 := (hrg1.kept hg2 (fun e => by have := Option.some.inj e; omega) (fun e => by have := Option.some.inj e; omega)).kept hg3 (fun e => by have := Option.some.inj e; omega) (fun e => by have := Option.some.inj e; omega)
        go_roundw
        case rel =>
          exact ⟨_, cnt1, m + 2, _, hrg2, by omega, by omega, hout3, both_step hM hB hat,
            ((hnx.grown hg1 hnx.size (fun j hj => by cases hj; exact Nat.le_succ _)).grown hg2 (by have := hnx.size; omega) (fun j hj => by cases hj; exact Nat.le_refl _)).grown hg3 (by have := hnx.size; have := hg2.size; omega) (fun j hj => by cases hj; exact Nat.le_refl _)⟩
        case measure => rw [hrg2.left_eq, hrg.left_eq]; exact hlt
  · have h41 : (formS op != 4) = true := by simp [h4]
    go_wp2_with fail
    go_ret2
    exact ⟨by simp [pairF, h4], hb⟩

/-! The two tables. -/
def oppD : DataW Unit := .map [(ki 0, di 4), (ki 1, di 8), (ki 2, di 7), (ki 5, di 10), (ki 6, di 9)]
def mirD : DataW Unit := .map [(ki 0, di 0), (ki 1, di 7), (ki 2, di 8), (ki 3, di 3), (ki 4, di 4), (ki 5, di 9), (ki 6, di 10)]
theorem has_ki (x y : Int) : (ki y).sameKey (ki x) = decide (y = x) := by
  simp [Lit.sameKey]
theorem mates_of (D0 : DataW Unit) (l : List Int) (ks : List Int) (hk : ∀ x, has D0 (ki x) = true → x ∈ ks)
    (h1 : ∀ x ∈ ks, ∀ y, D0.atKey (ki x) (di 99) = di y → mate l x = some y ∧ mate l y = some x) (h2 : ∀ x ∈ ([0, 1, 2, 3, 4, 5, 6, 7, 8, 9, 10] : List Int), ∀ y, mate l x = some y → mate l y = some x ∧ (has D0 (ki x) = true ∨ has D0 (ki y) = true)) (hs : size D0 ≤ 7) : Mates D0 l :=
  ⟨fun x y h => h1 x (hk x (has_true_of_atKey h)) y (h _), fun x y h => h2 x (by
    unfold mate at h
    split at h
    · simp; omega
    · cases h) y h, hs⟩
theorem opp_mates : Mates oppD oppL := by
  refine mates_of oppD oppL [0, 1, 2, 5, 6] (fun x h => ?_) (fun x hx y h => ?_) (fun x hx y h => ?_) (by decide)
  · simp [oppD, has, has_ki] at h
    simp; omega
  · simp only [List.mem_cons, List.not_mem_nil, or_false] at hx
    rcases hx with rfl | rfl | rfl | rfl | rfl
    all_goals (have h' := Lit.int.inj (DataW.lit.inj h); obtain ⟨_, rfl⟩ := h'; exact ⟨by decide, by decide⟩)
  · simp only [List.mem_cons, List.not_mem_nil, or_false] at hx
    rcases hx with rfl | rfl | rfl | rfl | rfl | rfl | rfl | rfl | rfl | rfl | rfl
    all_goals (simp [mate, oppL] at h)
    all_goals (subst h; exact ⟨by decide, by decide⟩)
theorem mir_mates : Mates mirD mirL := by
  refine mates_of mirD mirL [0, 1, 2, 3, 4, 5, 6] (fun x h => ?_) (fun x hx y h => ?_) (fun x hx y h => ?_) (by decide)
  · simp [mirD, has, has_ki] at h
    simp; omega
  · simp only [List.mem_cons, List.not_mem_nil, or_false] at hx
    rcases hx with rfl | rfl | rfl | rfl | rfl | rfl | rfl
    all_goals (have h' := Lit.int.inj (DataW.lit.inj h); obtain ⟨_, rfl⟩ := h'; exact ⟨by decide, by decide⟩)
  · simp only [List.mem_cons, List.not_mem_nil, or_false] at hx
    rcases hx with rfl | rfl | rfl | rfl | rfl | rfl | rfl | rfl | rfl | rfl | rfl
    all_goals (simp [mate, mirL] at h)
    all_goals (subst h; exact ⟨by decide, by decide⟩)

theorem wpList_insert_own {P : Program} (w : World) {ops : Array Oper} {rest : List Oper} {o : Oper} {a : Act} {Q : Exit → Act → World → Prop}
    (hg : o.guard = none) (m x v : Operand) (t : TypeId) (hop : o.op = Op.insert t m x v)
    (k e : TypeId) (K : Keyed P k) (ht : P.underlying t = some (.map k e)) (R : Value → Option (DataW Unit × List MemPlace)) (b n : Nat) (D : DataW Unit)
    (hm : a.eval m = .map (some b)) (hown : w.ownsMap P k R b n D) (hn : n < maxLen) (key val : Value) (kl : Lit) (hx : a.eval x = key) (hv : a.eval v = val) (hkey : keyOf P k key = some kl)
    (d : DataW Unit) (ps : List MemPlace) (hval : R val = some (d, ps))
    (hK : ∀ w', w'.ownsMap P k R b (n + 1) (D.put kl d) → w.grownBy w' (some b) → wpList P ops Q rest (a.put o.dst undef) w') :
    wpList P ops Q (o :: rest) a w := by
  refine wpList_plain hg fun K' hK' => ?_
  obtain ⟨w', hrun, r1, r2⟩ := hown.update K ht hn hkey hval
  unfold Oper.wp
  simp [execOp, hop, hm, hx, hv, hrun, Result.andThen]
  exact hK' _ _ (hK w' r1 r2)

set_option maxRecDepth 100000 in
set_option maxHeartbeats 1000000 in
theorem opposite_any (op : Int) (w : World) (hG : GG w) : Calls Tryd.prog 33 #[.int .i64 op] w fun e w' => e = .returned (.tuple #[.int .i64 (pairF oppL op).1, .bool (pairF oppL op).2]) ∧ Below w.heap.size w w' := by
  have hmm := @run_makeMap Tryd.prog
  go_enter Tryd.func33, Tryd.ntmps33
  have h0 := World.ownsMap_made (H := Unit) w Tryd.prog 3 (plainElem Tryd.prog 3)
  go_wp2_with (first
    | (refine wpList_insert_own _ rfl _ _ _ 62 rfl 3 3 lawI Tryd.underlying62 _ w.heap.size 4 _ rfl h4 (by unfold maxLen; omega) _ _ _ rfl rfl (keyOf_int_mk Tryd.underlying3 (by decide)) _ [] (plainElem_int Tryd.underlying3 (by decide)) ?_; intro w5 h5 g5)
    | (refine wpList_insert_own _ rfl _ _ _ 62 rfl 3 3 lawI Tryd.underlying62 _ w.heap.size 3 _ rfl h3 (by unfold maxLen; omega) _ _ _ rfl rfl (keyOf_int_mk Tryd.underlying3 (by decide)) _ [] (plainElem_int Tryd.underlying3 (by decide)) ?_; intro w4 h4 g4)
    | (refine wpList_insert_own _ rfl _ _ _ 62 rfl 3 3 lawI Tryd.underlying62 _ w.heap.size 2 _ rfl h2 (by unfold maxLen; omega) _ _ _ rfl rfl (keyOf_int_mk Tryd.underlying3 (by decide)) _ [] (plainElem_int Tryd.underlying3 (by decide)) ?_; intro w3 h3 g3)
    | (refine wpList_insert_own _ rfl _ _ _ 62 rfl 3 3 lawI Tryd.underlying62 _ w.heap.size 1 _ rfl h1 (by unfold maxLen; omega) _ _ _ rfl rfl (keyOf_int_mk Tryd.underlying3 (by decide)) _ [] (plainElem_int Tryd.underlying3 (by decide)) ?_; intro w2 h2 g2)
    | (refine wpList_insert_own _ rfl _ _ _ 62 rfl 3 3 lawI Tryd.underlying62 _ w.heap.size 0 _ rfl h0 (by unfold maxLen; omega) _ _ _ rfl rfl (keyOf_int_mk Tryd.underlying3 (by decide)) _ [] (plainElem_int Tryd.underlying3 (by decide)) ?_; intro w1 h1 g1)
    | fail)
  have hB : Below w.heap.size w w5 := by
    have b0 : Below w.heap.size w (w.alloc (.map #[] 0)) := (Below.refl _ w).alloc (Nat.le_refl _) _
    have hh : ∀ {a b : World}, Below w.heap.size w a → a.grownBy b (some w.heap.size) → Below w.heap.size w b := fun h g => h.grown g h.size (fun j hj => by cases hj; exact Nat.le_refl _)
    exact hh (hh (hh (hh (hh b0 g1) g2) g3) g4) g5
  refine (pair_any op oppL w.heap.size _ oppD w5 h5 opp_mates (G_at hG hB)).mono ?_
  rintro e w6 ⟨rfl, hb⟩
  go_wp2_with fail
  go_ret2
  exact ⟨rfl, hB.trans (hb.mono hB.size)⟩
set_option maxRecDepth 100000 in
set_option maxHeartbeats 1000000 in
theorem mirror_any (op : Int) (w : World) (hG : GG w) : Calls Tryd.prog 34 #[.int .i64 op] w fun e w' => e = .returned (.tuple #[.int .i64 (pairF mirL op).1, .bool (pairF mirL op).2]) ∧ Below w.heap.size w w' := by
  have hmm := @run_makeMap Tryd.prog
  go_enter Tryd.func34, Tryd.ntmps34
  have h0 := World.ownsMap_made (H := Unit) w Tryd.prog 3 (plainElem Tryd.prog 3)
  go_wp2_with (first
    | (refine wpList_insert_own _ rfl _ _ _ 62 rfl 3 3 lawI Tryd.underlying62 _ w.heap.size 6 _ rfl h6 (by unfold maxLen; omega) _ _ _ rfl rfl (keyOf_int_mk Tryd.underlying3 (by decide)) _ [] (plainElem_int Tryd.underlying3 (by decide)) ?_; intro w7 h7 g7)
    | (refine wpList_insert_own _ rfl _ _ _ 62 rfl 3 3 lawI Tryd.underlying62 _ w.heap.size 5 _ rfl h5 (by unfold maxLen; omega) _ _ _ rfl rfl (keyOf_int_mk Tryd.underlying3 (by decide)) _ [] (plainElem_int Tryd.underlying3 (by decide)) ?_; intro w6 h6 g6)
    | (refine wpList_insert_own _ rfl _ _ _ 62 rfl 3 3 lawI Tryd.underlying62 _ w.heap.size 4 _ rfl h4 (by unfold maxLen; omega) _ _ _ rfl rfl (keyOf_int_mk Tryd.underlying3 (by decide)) _ [] (plainElem_int Tryd.underlying3 (by decide)) ?_; intro w5 h5 g5)
    | (refine wpList_insert_own _ rfl _ _ _ 62 rfl 3 3 lawI Tryd.underlying62 _ w.heap.size 3 _ rfl h3 (by unfold maxLen; omega) _ _ _ rfl rfl (keyOf_int_mk Tryd.underlying3 (by decide)) _ [] (plainElem_int Tryd.underlying3 (by decide)) ?_; intro w4 h4 g4)
    | (refine wpList_insert_own _ rfl _ _ _ 62 rfl 3 3 lawI Tryd.underlying62 _ w.heap.size 2 _ rfl h2 (by unfold maxLen; omega) _ _ _ rfl rfl (keyOf_int_mk Tryd.underlying3 (by decide)) _ [] (plainElem_int Tryd.underlying3 (by decide)) ?_; intro w3 h3 g3)
    | (refine wpList_insert_own _ rfl _ _ _ 62 rfl 3 3 lawI Tryd.underlying62 _ w.heap.size 1 _ rfl h1 (by unfold maxLen; omega) _ _ _ rfl rfl (keyOf_int_mk Tryd.underlying3 (by decide)) _ [] (plainElem_int Tryd.underlying3 (by decide)) ?_; intro w2 h2 g2)
    | (refine wpList_insert_own _ rfl _ _ _ 62 rfl 3 3 lawI Tryd.underlying62 _ w.heap.size 0 _ rfl h0 (by unfold maxLen; omega) _ _ _ rfl rfl (keyOf_int_mk Tryd.underlying3 (by decide)) _ [] (plainElem_int Tryd.underlying3 (by decide)) ?_; intro w1 h1 g1)
    | fail)
  have hB : Below w.heap.size w w7 := by
    have b0 : Below w.heap.size w (w.alloc (.map #[] 0)) := (Below.refl _ w).alloc (Nat.le_refl _) _
    have hh : ∀ {a b : World}, Below w.heap.size w a → a.grownBy b (some w.heap.size) → Below w.heap.size w b := fun h g => h.grown g h.size (fun j hj => by cases hj; exact Nat.le_refl _)
    exact hh (hh (hh (hh (hh (hh (hh b0 g1) g2) g3) g4) g5) g6) g7
  refine (pair_any op mirL w.heap.size _ mirD w7 h7 mir_mates (G_at hG hB)).mono ?_
  rintro e w8 ⟨rfl, hb⟩
  go_wp2_with fail
  go_ret2
  exact ⟨rfl, hB.trans (hb.mono hB.size)⟩

def cond_Opposite.f (a0 : Int) : Option (Int × Bool) := some (pairF oppL a0)
theorem cond_Opposite.calls (a0 : Int) (r1 : Int) (r2 : Bool) (w : World) (h : cond_Opposite.f a0 = some (r1, r2)) (hG : GG w) :
    Calls Tryd.prog 33 #[.int .i64 a0] w fun e w' => e = .returned (.tuple #[.int .i64 r1, .bool r2]) ∧ Below w.heap.size w w' := by
  have h := Option.some.inj h
  have e1 : r1 = (pairF oppL a0).1 := congrArg Prod.fst h.symm
  have e2 : r2 = (pairF oppL a0).2 := congrArg Prod.snd h.symm
  rw [e1, e2]
  exact opposite_any a0 w hG
def cond_Mirror.f (a0 : Int) : Option (Int × Bool) := some (pairF mirL a0)
theorem cond_Mirror.calls (a0 : Int) (r1 : Int) (r2 : Bool) (w : World) (h : cond_Mirror.f a0 = some (r1, r2)) (hG : GG w) :
    Calls Tryd.prog 34 #[.int .i64 a0] w fun e w' => e = .returned (.tuple #[.int .i64 r1, .bool r2]) ∧ Below w.heap.size w w' := by
  have h := Option.some.inj h
  have e1 : r1 = (pairF mirL a0).1 := congrArg Prod.fst h.symm
  have e2 : r2 = (pairF mirL a0).2 := congrArg Prod.snd h.symm
  rw [e1, e2]
  exact mirror_any a0 w hG
end Go.Proofs.YtnllfppkfdnjpaaDoor.Q
