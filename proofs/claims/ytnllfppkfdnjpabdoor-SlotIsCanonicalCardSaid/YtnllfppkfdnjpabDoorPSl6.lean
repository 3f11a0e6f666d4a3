/- Chapter 5 in numbers, sixth part: the instructions of many bytes, and the bytes of many instructions. -/
import Derived.Test.YtnllfppkfdnjpabDoorPSl4
import Derived.Test.YtnllfppkfdnjpabDoorPSl3
import Derived.Test.YtnllfppkfdnjpabDoorSla
import Derived.Test.YtnllfppkfdnjpabDoorKx13
namespace Go.Proofs.YtnllfppkfdnjpabDoor.Q
open Go Go.RowKit Go.Proofs.YtnllfppkfdnjpabDoor.Ops Go.Proofs.YtnllfppkfdnjpabDoorW.PrintWords

theorem wrapN (i : Nat) (h : i ≤ 1000000) : wrap64 ((i : Int) + 1) = ((i + 1 : Nat) : Int) := by unfold wrap64; omega
theorem same_byte_go : ∀ (d k : Nat) (l : List Int) (i : Nat), i + d = l.length → d < k → l.length ≤ 100000 → slotcoderef01_Same.l0 k l l i = some true
  | 0, k, l, i, h, hk, _ => by
    obtain ⟨k, rfl⟩ : ∃ m, k = m + 1 := ⟨k - 1, by omega⟩
    rw [slotcoderef01_Same.l0, if_neg (by omega)]
  | d + 1, k, l, i, h, hk, hl => by
    obtain ⟨k, rfl⟩ : ∃ m, k = m + 1 := ⟨k - 1, by omega⟩
    rw [slotcoderef01_Same.l0, if_pos (by omega), if_pos (by omega), if_pos (by omega), if_pos rfl, wrapN i (by omega)]
    exact same_byte_go d k l (i + 1) (by omega) (by omega) hl
theorem same_byte (k : Nat) (l : List Int) (hk : l.length < k) (hl : l.length ≤ 100000) : slotcoderef01_Same.f k l l = some true := by
  unfold slotcoderef01_Same.f
  rw [if_pos rfl]
  exact same_byte_go l.length k l 0 (by omega) hk hl
theorem same_ins_go : ∀ (d k : Nat) (l : List S23) (i : Nat), i + d = l.length → d < k → l.length ≤ 100000 → slotcoderef05_Same.l0 k l l i = some true
  | 0, k, l, i, h, hk, _ => by
    obtain ⟨k, rfl⟩ : ∃ m, k = m + 1 := ⟨k - 1, by omega⟩
    rw [slotcoderef05_Same.l0, if_neg (by omega)]
  | d + 1, k, l, i, h, hk, hl => by
    obtain ⟨k, rfl⟩ : ∃ m, k = m + 1 := ⟨k - 1, by omega⟩
    rw [slotcoderef05_Same.l0, if_pos (by omega), if_pos (by omega), if_pos (by omega), if_neg (by simp), wrapN i (by omega)]
    exact same_ins_go d k l (i + 1) (by omega) (by omega) hl
theorem same_ins (k : Nat) (l : List S23) (hk : l.length < k) (hl : l.length ≤ 100000) : slotcoderef05_Same.f k l l = some true := by
  unfold slotcoderef05_Same.f
  rw [if_pos rfl]
  exact same_ins_go l.length k l 0 (by omega) hk hl

/-! The instructions of bytes -/
def decD (l : List Int) : Dt := decB l
def runB : Nat → List Int → List Dt
  | 0, _ => []
  | k + 1, b => if b.length = 0 then [] else if (decD b).e = 0 then decD b :: runB k (b.drop (8 * (decD b).n).toNat) else [decD b]
theorem bytes_drop {l : List Int} (h : Bytes l) (n : Nat) : Bytes (l.drop n) := fun x hx => h x (List.mem_of_mem_drop hx)
theorem decD_enc {l : List Int} (hb : Bytes l) (h : (decD l).e = 0) : Enc l (decD l).x.f0 (decD l).x.f1 (decD l).x.f2 (decD l).x.f3 (decD l).x.f4 (decD l).x.f5 (decD l).n := by
  refine enc_dec hb ?_
  show decD l = ((decD l).1, (decD l).2.1, (decD l).2.2.1, (decD l).2.2.2.1, (decD l).2.2.2.2.1, (decD l).2.2.2.2.2.1, (decD l).2.2.2.2.2.2.1, 0)
  have h' : (decD l).2.2.2.2.2.2.2 = 0 := h
  generalize decD l = t at h'
  obtain ⟨t1, t2, t3, t4, t5, t6, t7, t8⟩ := t
  obtain rfl : t8 = 0 := h'
  rfl
theorem trace_runB : ∀ (k : Nat) (b : List Int), Bytes b → b.length < k → trace k b = some (runB k b) ∧ (runB k b).length ≤ b.length
  | 0, b, _, h => by omega
  | k + 1, b, hb, h => by
    rw [trace, runB]
    by_cases h0 : b.length = 0
    · rw [if_pos h0, if_pos h0]
      exact ⟨rfl, by simp⟩
    · rw [if_neg h0, if_neg h0, dec_f 50 (by omega) b hb]
      show (if (decD b).e = 0 then (if 0 < (decD b).n ∧ 8 * (decD b).n ≤ b.length then (trace k (b.drop (8 * (decD b).n).toNat)).map (decD b :: ·) else none) else some [decD b]) = _ ∧ _
      by_cases he : (decD b).e = 0
      · have E := decD_enc hb he
        have h1 := E.n12
        have h2 := E.len
        rw [if_pos he, if_pos he, if_pos ⟨by omega, h2⟩]
        have hl : (b.drop (8 * (decD b).n).toNat).length < k := by rw [List.length_drop]; omega
        have ih := trace_runB k _ (bytes_drop hb _) hl
        rw [ih.1]
        refine ⟨rfl, ?_⟩
        have := ih.2
        rw [List.length_drop] at this
        rw [List.length_cons]
        omega
      · rw [if_neg he, if_neg he]
        exact ⟨rfl, by simp; omega⟩
theorem runB_fuel : ∀ (k m : Nat) (b : List Int), Bytes b → b.length < k → b.length < m → runB k b = runB m b
  | 0, _, _, _, h, _ => by omega
  | _, 0, _, _, _, h => by omega
  | k + 1, m + 1, b, hb, h, h' => by
    rw [runB, runB]
    by_cases h0 : b.length = 0
    · rw [if_pos h0, if_pos h0]
    · rw [if_neg h0, if_neg h0]
      by_cases he : (decD b).e = 0
      · have E := decD_enc hb he
        have h1 := E.n12
        have h2 := E.len
        rw [if_pos he, if_pos he, runB_fuel k m _ (bytes_drop hb _) (by rw [List.length_drop]; omega) (by rw [List.length_drop]; omega)]
      · rw [if_neg he, if_neg he]
/-- What both Alls return. -/
def allB (b : List Int) : List S23 × Int × Int := allGo (runB (b.length + 1) b) [] 0
theorem all_f (k : Nat) (b : List Int) (hb : Bytes b) (hk : b.length < k) (hl : b.length ≤ 60000) : slot_All.f k b = some (allB b) := by
  have h := trace_runB k b hb hk
  unfold slot_All.f
  rw [h.1, runB_fuel k (b.length + 1) b hb hk (by omega)]
  have h2 := (trace_runB (b.length + 1) b hb (by omega)).2
  simp only [Option.bind_some]
  rw [if_pos (by omega)]
  rfl
/-! The bytes of instructions -/
def chkX (x : S23) : Int := checkF x.f0 x.f1 x.f2 x.f3 x.f4 x.f5
def encX (x : S23) : List Int := encB x.f0 x.f1 x.f2 x.f3 x.f4 x.f5
/-- The distance and the immediate are 64-bit numbers. -/
def Fit (x : S23) : Prop := -9223372036854775808 ≤ x.f4 ∧ x.f4 ≤ 9223372036854775807 ∧ -9223372036854775808 ≤ x.f5 ∧ x.f5 ≤ 9223372036854775807
theorem encX_length (x : S23) : (encX x).length ≤ 16 := by
  unfold encX
  rw [encB_length]
  split <;> omega
def jn : List S23 → Int → List Int → List Int × Int × Int
  | [], _, out => (out, 0, 0)
  | x :: l, i, out => if chkX x = 0 then jn l (i + 1) (out ++ encX x) else ([], i, chkX x)
theorem rd_drop {l : List S23} {i : Nat} {x : S23} {r : List S23} (h : l.drop i = x :: r) : rd_T23 l i = x ∧ l.drop (i + 1) = r ∧ i < l.length := by
  have hlt : i < l.length := by
    rcases Nat.lt_or_ge i l.length with k | k
    · exact k
    · rw [List.drop_of_length_le k] at h
      cases h
  rw [List.drop_eq_getElem_cons hlt] at h
  obtain ⟨h1, h2⟩ := List.cons.inj h
  refine ⟨?_, h2, hlt⟩
  unfold rd_T23
  rw [show ((i : Int)).toNat = i from rfl, List.getD_eq_getElem?_getD, List.getElem?_eq_getElem hlt]
  exact h1
theorem drop_nil {α : Type} {l : List α} {i : Nat} (h : l.drop i = []) : l.length ≤ i := by
  have := List.length_drop (l := l) (i := i)
  rw [h] at this
  simp at this
  omega
theorem join_go : ∀ (r : List S23) (k : Nat) (l : List S23) (out : List Int) (i : Nat), l.drop i = r → (∀ x ∈ r, Fit x) → l.length ≤ 100000 → r.length + 12 ≤ k → out.length + 16 * r.length ≤ 10000000 →
    slot_Join.l0 k out l (l.length : Int) i = some (jn r i out)
  | [], k, l, out, i, h, _, hl, hk, _ => by
    obtain ⟨k, rfl⟩ : ∃ m, k = m + 1 := ⟨k - 1, by omega⟩
    have := drop_nil h
    rw [slot_Join.l0, if_neg (by omega)]
    rfl
  | x :: r, k, l, out, i, h, hf, hl, hk, ho => by
    obtain ⟨k, rfl⟩ : ∃ m, k = m + 1 := ⟨k - 1, by omega⟩
    obtain ⟨h1, h2, h3⟩ := rd_drop h
    have hx := hf x (by simp)
    simp only [List.length_cons] at hk ho
    rw [slot_Join.l0, if_pos (by omega), if_pos (by omega), if_pos (by omega), h1, enc_f k (by omega) _ _ _ _ _ _ hx.1 hx.2.1 hx.2.2.1 hx.2.2.2]
    refine bindE rfl ?_
    rw [jn]
    unfold chkX
    by_cases hc : checkF x.f0 x.f1 x.f2 x.f3 x.f4 x.f5 = 0
    · rw [if_pos hc, if_pos hc]
      have e16 := encX_length x
      refine (if_pos rfl).trans ?_
      refine (if_pos ?_).trans ?_
      · show out.length + (encX x).length < _
        omega
      · rw [wrapN i (by omega)]
        have := join_go r k l (out ++ encX x) (i + 1) h2 (fun y hy => hf y (by simp [hy])) hl (by omega) (by simp; omega)
        rw [show ((i : Int) + 1) = ((i + 1 : Nat) : Int) by omega]
        exact this
    · rw [if_neg hc, if_neg hc, if_neg hc]
theorem join_f (k : Nat) (l : List S23) (hf : ∀ x ∈ l, Fit x) (hl : l.length ≤ 100000) (hk : l.length + 12 ≤ k) : slot_Join.f k l = some (jn l 0 []) := by
  unfold slot_Join.f
  exact join_go l k l [] 0 rfl hf hl hk (by simp; omega)
theorem jn_good : ∀ (l : List S23) (i : Int) (out : List Int), (∀ x ∈ l, chkX x = 0) → jn l i out = (out ++ l.flatMap encX, 0, 0)
  | [], _, out, _ => by simp [jn]
  | x :: l, i, out, h => by
    rw [jn, if_pos (h x (by simp)), jn_good l _ _ (fun y hy => h y (by simp [hy]))]
    simp
theorem rjoin_go : ∀ (r : List S23) (k : Nat) (l : List S23) (out : List Int) (i : Nat), l.drop i = r → (∀ x ∈ r, Fit x ∧ chkX x = 0) → l.length ≤ 100000 → r.length + 12 ≤ k → out.length + 16 * r.length ≤ 10000000 →
    slotcoderef05_Join.l0 k l out i = some (out ++ r.flatMap encX)
  | [], k, l, out, i, h, _, hl, hk, _ => by
    obtain ⟨k, rfl⟩ : ∃ m, k = m + 1 := ⟨k - 1, by omega⟩
    have := drop_nil h
    rw [slotcoderef05_Join.l0, if_neg (by omega)]
    simp
  | x :: r, k, l, out, i, h, hf, hl, hk, ho => by
    obtain ⟨k, rfl⟩ : ∃ m, k = m + 1 := ⟨k - 1, by omega⟩
    obtain ⟨h1, h2, h3⟩ := rd_drop h
    have hx := hf x (by simp)
    simp only [List.length_cons] at hk ho
    have e16 := encX_length x
    rw [slotcoderef05_Join.l0, if_pos (by omega), if_pos (by omega), h1, renc_f k (by omega) _ _ _ _ _ _ hx.1.1 hx.1.2.1 hx.2]
    refine bindE rfl ?_
    refine (if_pos ?_).trans ?_
    · show out.length + (encX x).length < _
      omega
    · rw [wrapN i (by omega)]
      have := rjoin_go r k l (out ++ encX x) (i + 1) h2 (fun y hy => hf y (by simp [hy])) hl (by omega) (by simp; omega)
      refine this.trans ?_
      simp
theorem rjoin_f (k : Nat) (l : List S23) (hf : ∀ x ∈ l, Fit x ∧ chkX x = 0) (hl : l.length ≤ 100000) (hk : l.length + 12 ≤ k) : slotcoderef05_Join.f k l = some (l.flatMap encX) := by
  unfold slotcoderef05_Join.f
  have := rjoin_go l k l [] 0 rfl hf hl hk (by simp; omega)
  rw [List.nil_append] at this
  exact this

/-! Together -/
def dtX (x : S23) : Dt := (x.f0, x.f1, x.f2, x.f3, x.f4, x.f5, slotsT (formS x.f0), 0)
theorem encX_len {x : S23} (h : chkX x = 0) : ((encX x).length : Int) = 8 * slotsT (formS x.f0) ∧ (slotsT (formS x.f0) = 1 ∨ slotsT (formS x.f0) = 2) := by
  have g := (good (show checkF x.f0 x.f1 x.f2 x.f3 x.f4 x.f5 = 0 from h)).is
  obtain ⟨m, e⟩ := Int.eq_ofNat_of_zero_le g.1
  have h12 := slots_12 (k := m) (by have := g.2; omega)
  unfold encX
  rw [encB_length, e]
  rcases h12 with k | k
  · rw [k, if_neg (by omega)]
    exact ⟨rfl, .inl rfl⟩
  · rw [k, if_pos rfl]
    exact ⟨rfl, .inr rfl⟩
theorem decD_encX {x : S23} (h : chkX x = 0) (hf : Fit x) (rest : List Int) : decD (encX x ++ rest) = dtX x :=
  dec_enc h hf.1 hf.2.1 hf.2.2.1 hf.2.2.2 rest
theorem runB_enc : ∀ (l : List S23) (k : Nat), (∀ x ∈ l, Fit x ∧ chkX x = 0) → l.length < k → runB k (l.flatMap encX) = l.map dtX
  | [], k, _, hk => by
    obtain ⟨k, rfl⟩ : ∃ m, k = m + 1 := ⟨k - 1, by omega⟩
    rfl
  | x :: l, k, h, hk => by
    obtain ⟨k, rfl⟩ : ∃ m, k = m + 1 := ⟨k - 1, by omega⟩
    have hx := h x (by simp)
    have hn := encX_len hx.2
    rw [List.flatMap_cons, runB, if_neg (by rw [List.length_append]; omega), decD_encX hx.2 hx.1, if_pos (show (dtX x).e = 0 from rfl)]
    have ed : (8 * (dtX x).n).toNat = (encX x).length := by
      show (8 * slotsT (formS x.f0)).toNat = _
      omega
    rw [ed, List.drop_left, runB_enc l k (fun y hy => h y (by simp [hy])) (by simp at hk; omega)]
    rfl
theorem allGo_enc : ∀ (l : List S23) (out : List S23) (i : Int), allGo (l.map dtX) out i = (out ++ l, 0, 0)
  | [], out, i => by simp [allGo]
  | x :: l, out, i => by
    show (if (0 : Int) = 0 then allGo (l.map dtX) (out ++ [x]) _ else _) = _
    rw [if_pos rfl, allGo_enc l]
    simp
theorem flat_length : ∀ (l : List S23), (∀ x ∈ l, chkX x = 0) → l.length ≤ (l.flatMap encX).length ∧ (l.flatMap encX).length ≤ 16 * l.length
  | [], _ => by simp
  | x :: l, h => by
    have hn := encX_len (h x (by simp))
    have := flat_length l (fun y hy => h y (by simp [hy]))
    rw [List.flatMap_cons, List.length_append, List.length_cons]
    omega
theorem allB_enc (l : List S23) (h : ∀ x ∈ l, Fit x ∧ chkX x = 0) : allB (l.flatMap encX) = (l, 0, 0) := by
  unfold allB
  have := flat_length l (fun x hx => (h x hx).2)
  rw [runB_enc l _ h (by omega), allGo_enc]
  rfl
theorem bytes_leB : ∀ (n : Nat) (x : Int), Bytes (leB n x)
  | 0, _ => by intro y hy; cases hy
  | n + 1, x => by
    intro y hy
    rw [leB, List.mem_cons] at hy
    rcases hy with rfl | hy
    · omega
    · exact bytes_leB n _ y hy
theorem bytes_app {a b : List Int} (ha : Bytes a) (hb : Bytes b) : Bytes (a ++ b) := by
  intro x hx
  rcases List.mem_append.1 hx with k | k
  · exact ha x k
  · exact hb x k
theorem codeF_byte (o : Int) (r : Bool) : 0 ≤ (codeF o r).1 ∧ (codeF o r).1 ≤ 255 := by
  unfold codeF
  split
  · rename_i h
    have m := smalls h
    have m1 := m.c0; have m2 := m.c1
    split
    · split
      · show 0 ≤ (codeS o + 8) % 256 ∧ (codeS o + 8) % 256 ≤ 255
        omega
      · decide
    · show 0 ≤ codeS o ∧ codeS o ≤ 255
      omega
  · decide
theorem bytes_enc {o : Int} {r : Bool} {d s f i : Int} (h : checkF o r d s f i = 0) : Bytes (encB o r d s f i) := by
  have g := good h
  have m := smalls g.is
  have m1 := m.s0; have m2 := m.s1; have g1 := g.d0; have g2 := g.d1; have g3 := g.s0; have g4 := g.s1
  have hc := codeF_byte o r
  unfold encB
  refine bytes_app (bytes_app (bytes_app ?_ (bytes_leB _ _)) (bytes_leB _ _)) ?_
  · intro x hx
    simp only [List.mem_cons, List.not_mem_nil, or_false] at hx
    rcases hx with rfl | rfl
    · exact hc
    · omega
  · split
    · exact bytes_app (bytes_leB _ _) (bytes_leB _ _)
    · intro x hx; cases hx
theorem bytes_flat : ∀ (l : List S23), (∀ x ∈ l, chkX x = 0) → Bytes (l.flatMap encX)
  | [], _ => by intro x hx; cases hx
  | x :: l, h => by
    rw [List.flatMap_cons]
    exact bytes_app (bytes_enc (h x (by simp))) (bytes_flat l (fun y hy => h y (by simp [hy])))
/-- Without an error, the instructions that All returns are correct, and their bytes are the bytes. -/
theorem allGo_join : ∀ (k : Nat) (b : List Int) (out : List S23) (i : Int), Bytes b → b.length < k → (allGo (runB k b) out i).2.2 = 0 →
    ∃ l, (allGo (runB k b) out i).1 = out ++ l ∧ l.flatMap encX = b ∧ ∀ x ∈ l, Fit x ∧ chkX x = 0
  | 0, b, _, _, _, h, _ => by omega
  | k + 1, b, out, i, hb, h, he => by
    rw [runB] at he ⊢
    by_cases h0 : b.length = 0
    · rw [if_pos h0]
      exact ⟨[], by simp [allGo], by simp [List.eq_nil_of_length_eq_zero h0], by simp⟩
    · rw [if_neg h0] at he ⊢
      by_cases hz : (decD b).e = 0
      · have E := decD_enc hb hz
        have n1 := E.n12
        have n2 := E.len
        rw [if_pos hz] at he ⊢
        rw [allGo, if_pos hz] at he ⊢
        obtain ⟨l, h1, h2, h3⟩ := allGo_join k _ _ _ (bytes_drop hb _) (by rw [List.length_drop]; omega) he
        refine ⟨(decD b).x :: l, by rw [h1]; simp, ?_, ?_⟩
        · rw [List.flatMap_cons, h2]
          show encB _ _ _ _ _ _ ++ _ = _
          rw [E.enc, List.take_append_drop]
        · intro x hx
          rcases List.mem_cons.1 hx with rfl | hx
          · exact ⟨⟨E.f1, E.f2, E.i1, E.i2⟩, E.chk⟩
          · exact h3 x hx
      · rw [if_neg hz] at he
        rw [allGo, if_neg hz] at he
        exact absurd he hz
theorem allB_join {b : List Int} (hb : Bytes b) (he : (allB b).2.2 = 0) : (allB b).1.flatMap encX = b ∧ ∀ x ∈ (allB b).1, Fit x ∧ chkX x = 0 := by
  unfold allB at he ⊢
  obtain ⟨l, h1, h2, h3⟩ := allGo_join (b.length + 1) b [] 0 hb (by omega) he
  rw [h1, List.nil_append]
  exact ⟨h2, h3⟩
theorem allB_err {b : List Int} (he : (allB b).2.2 ≠ 0) : (allB b).1 = [] := allGo_none _ _ _ he
theorem allGo_len : ∀ (ts : List Dt) (out : List S23) (i : Int), (allGo ts out i).1.length ≤ out.length + ts.length
  | [], out, i => by simp [allGo]
  | t :: ts, out, i => by
    rw [allGo]
    split
    · have := allGo_len ts (out ++ [t.x]) (wrap64 (i + t.n))
      simp at this ⊢
      omega
    · simp
theorem allB_len {b : List Int} (hb : Bytes b) : (allB b).1.length ≤ b.length := by
  unfold allB
  have h1 := allGo_len (runB (b.length + 1) b) [] 0
  have h2 := (trace_runB (b.length + 1) b hb (by omega)).2
  simp at h1
  omega
end Go.Proofs.YtnllfppkfdnjpabDoor.Q
