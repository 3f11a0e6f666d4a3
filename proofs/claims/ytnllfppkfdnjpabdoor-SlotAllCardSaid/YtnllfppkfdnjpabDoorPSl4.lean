/- Chapter 5 in numbers, fourth part: Decode and Encode are inverse. -/
import Derived.Test.YtnllfppkfdnjpabDoorPSl2
namespace Go.Proofs.YtnllfppkfdnjpabDoor.Q
open Go Go.RowKit Go.Proofs.YtnllfppkfdnjpabDoor.Ops Go.Proofs.YtnllfppkfdnjpabDoorW.PrintWords

theorem codeok_all : (List.range 86).map (fun n => (codeF (Int.ofNat n) false).2 && ((codeF (Int.ofNat n) true).2 == (formS (Int.ofNat n) == 0 || formS (Int.ofNat n) == 4))) = (List.range 86).map (fun _ => true) := by kernel_rfl
theorem code_ok2 {k : Nat} (hk : k < 86) {r : Bool} (h : r3B k r = false) : (codeF k r).2 = true := by
  have a := of_range codeok_all k hk
  rw [Bool.and_eq_true, beq_iff_eq] at a
  cases r
  · exact a.1
  · have a2 : (codeF k true).2 = (formS k == 0 || formS k == 4) := a.2
    rw [a2]
    unfold r3B at h
    simp only [Bool.true_and, Bool.and_eq_false_iff, bne_eq_false_iff_eq] at h
    rw [Bool.or_eq_true, beq_iff_eq, beq_iff_eq]
    exact h
theorem match_good {k : Nat} (hk : k < 86) {r : Bool} {d s f i : Int} (g : Good k r d s f i) (c : Int) (hc : immS k ≠ 0 → c = immS k) : matchR (opForm k) (opSrc k) (opOff k) (opImm k) (s + srcS k) (f + offS k) c = true := by
  obtain ⟨r1, r2, r3, r4⟩ := row_nat hk
  rw [← r1, ← r2, ← r3, ← r4]
  have h := g.r4
  simp only [r4B, Bool.or_eq_false_iff, Bool.and_eq_false_iff, Bool.not_eq_false', bne_eq_false_iff_eq] at h
  obtain ⟨⟨⟨_, hs⟩, hf⟩, _⟩ := h
  unfold matchR
  split
  · rename_i h0
    rw [Bool.or_eq_true, beq_iff_eq, beq_iff_eq] at h0
    have e : f = 0 := hf.resolve_left (by rcases h0 with e | e <;> rw [e] <;> cases r <;> decide)
    rw [e]
    simp
  · split
    · rename_i h1
      have : immS k ≠ 0 := by simpa using h1
      rw [hc this]
      simp
    · split
      · rename_i h2
        rw [Bool.or_eq_true, beq_iff_eq, beq_iff_eq] at h2
        have e : s = 0 := hs.resolve_left (by rcases h2 with e | e <;> rw [e] <;> cases r <;> decide)
        rw [e]
        simp
      · rfl
theorem imm32 {o : Int} {r : Bool} {d s f i : Int} (g : Good o r d s f i) (h : slotsT (formS o) ≠ 2) (i1 : -9223372036854775808 ≤ i) (i2 : i ≤ 9223372036854775807) : -2147483648 ≤ i ∧ i ≤ 2147483647 := by
  have m := g.im
  have h10 : formS o ≠ 10 := fun e => h (by rw [e]; rfl)
  unfold immB at m
  rw [if_neg h10] at m
  split at m
  · simp only [Bool.and_eq_true, decide_eq_true_eq] at m
    omega
  · split at m
    · simp only [Bool.and_eq_true, decide_eq_true_eq] at m
      omega
    · rw [fit32 i i1 i2] at m
      simp only [Bool.and_eq_true, decide_eq_true_eq] at m
      omega
theorem dec8 (c b x0 x1 y0 y1 y2 y3 : Int) (t : List Int) : decB (c :: b :: x0 :: x1 :: y0 :: y1 :: y2 :: y3 :: t) =
    decQ (c :: b :: x0 :: x1 :: y0 :: y1 :: y2 :: y3 :: t) (identF c (b / 16) (sx16 (x0 + 256 * x1)) (sx32 (y0 + 256 * y1 + 65536 * y2 + 16777216 * y3))) := by
  unfold decB
  rw [if_neg (by simp only [List.length_cons]; omega)]
  rfl
theorem decQ_no (l : List Int) (o : Int) (r : Bool) : decQ l (o, r, false) = (0, false, 0, 0, 0, 0, 0, 6) := by
  unfold decQ
  exact if_pos rfl
theorem decQ_short (l : List Int) (o : Int) (r : Bool) (h : (l.length : Int) < 8 * slotsT (formS o)) : decQ l (o, r, true) = (0, false, 0, 0, 0, 0, 0, 17) := by
  unfold decQ
  rw [if_neg (by simp), if_pos h]
theorem decQ8 (c b x0 x1 y0 y1 y2 y3 : Int) (t : List Int) (o : Int) (r : Bool) (h : slotsT (formS o) = 1) : decQ (c :: b :: x0 :: x1 :: y0 :: y1 :: y2 :: y3 :: t) (o, r, true) =
    if b % 16 > 10 ∨ b / 16 > 10 then (0, false, 0, 0, 0, 0, 0, 5) else
    if checkF o r (b % 16) (b / 16 - srcS o) (sx16 (x0 + 256 * x1) - offS o) (sx32 (y0 + 256 * y1 + 65536 * y2 + 16777216 * y3) - immS o) = 0 then
      (o, r, b % 16, b / 16 - srcS o, sx16 (x0 + 256 * x1) - offS o, sx32 (y0 + 256 * y1 + 65536 * y2 + 16777216 * y3) - immS o, slotsT (formS o), 0) else (0, false, 0, 0, 0, 0, 0, 12) := by
  unfold decQ
  rw [if_neg (by simp), if_neg (by rw [h]; simp only [List.length_cons]; omega)]
  have e : ∀ (P : Prop) [Decidable P] (x y z : Int × Bool × Int × Int × Int × Int × Int × Int), (if P then x else if slotsT (formS o) = 2 then y else z) = if P then x else z := by
    intro P _ x y z
    rw [if_neg (show ¬ slotsT (formS o) = 2 by omega)]
  exact e _ _ _ _
theorem decQ16 (c b x0 x1 y0 y1 y2 y3 z0 z1 z2 z3 v0 v1 v2 v3 : Int) (t : List Int) (o : Int) (r : Bool) (h : slotsT (formS o) = 2) : decQ (c :: b :: x0 :: x1 :: y0 :: y1 :: y2 :: y3 :: z0 :: z1 :: z2 :: z3 :: v0 :: v1 :: v2 :: v3 :: t) (o, r, true) =
    if b % 16 > 10 ∨ b / 16 > 10 then (0, false, 0, 0, 0, 0, 0, 5) else
    if z0 + 256 * z1 + 65536 * z2 + 16777216 * z3 = 0 then
      if checkF o r (b % 16) (b / 16 - srcS o) (sx16 (x0 + 256 * x1) - offS o) (wrap64 ((v0 + 256 * v1 + 65536 * v2 + 16777216 * v3) * 4294967296 + (y0 + 256 * y1 + 65536 * y2 + 16777216 * y3))) = 0 then
        (o, r, b % 16, b / 16 - srcS o, sx16 (x0 + 256 * x1) - offS o, wrap64 ((v0 + 256 * v1 + 65536 * v2 + 16777216 * v3) * 4294967296 + (y0 + 256 * y1 + 65536 * y2 + 16777216 * y3)), 2, 0)
      else (0, false, 0, 0, 0, 0, 0, 12) else (0, false, 0, 0, 0, 0, 0, 12) := by
  unfold decQ
  rw [if_neg (by simp), if_neg (by rw [h]; simp only [List.length_cons]; omega)]
  have e : ∀ (P : Prop) [Decidable P] (x y z : Int × Bool × Int × Int × Int × Int × Int × Int), (if P then x else if slotsT (formS o) = 2 then y else z) = if P then x else y := by
    intro P _ x y z
    rw [if_pos h]
  exact e _ _ _ _
theorem enc8 {o : Int} {r : Bool} {d s f i : Int} (rest : List Int) (h : slotsT (formS o) ≠ 2) : encB o r d s f i ++ rest =
    (codeF o r).1 :: (16 * (s + srcS o) + d) :: (f + offS o) % 256 :: (f + offS o) / 256 % 256 :: (i + immS o) % 256 :: (i + immS o) / 256 % 256 :: (i + immS o) / 256 / 256 % 256 :: (i + immS o) / 256 / 256 / 256 % 256 :: rest := by
  unfold encB
  rw [if_neg h, List.append_nil]
  rfl
theorem enc16 {o : Int} {r : Bool} {d s f i : Int} (rest : List Int) (h : slotsT (formS o) = 2) : encB o r d s f i ++ rest =
    (codeF o r).1 :: (16 * (s + srcS o) + d) :: (f + offS o) % 256 :: (f + offS o) / 256 % 256 :: (i + immS o) % 256 :: (i + immS o) / 256 % 256 :: (i + immS o) / 256 / 256 % 256 :: (i + immS o) / 256 / 256 / 256 % 256 ::
    0 :: 0 :: 0 :: 0 :: i / 4294967296 % 256 :: i / 4294967296 / 256 % 256 :: i / 4294967296 / 256 / 256 % 256 :: i / 4294967296 / 256 / 256 / 256 % 256 :: rest := by
  unfold encB
  rw [if_pos h]
  rfl
theorem le4_eq (x : Int) : x % 256 + 256 * (x / 256 % 256) + 65536 * (x / 256 / 256 % 256) + 16777216 * (x / 256 / 256 / 256 % 256) = x % 4294967296 := by omega
theorem dec_enc {o : Int} {r : Bool} {d s f i : Int} (h : checkF o r d s f i = 0) (f1 : -9223372036854775808 ≤ f) (f2 : f ≤ 9223372036854775807) (i1 : -9223372036854775808 ≤ i) (i2 : i ≤ 9223372036854775807) (rest : List Int) :
    decB (encB o r d s f i ++ rest) = (o, r, d, s, f, i, slotsT (formS o), 0) := by
  have g := good h
  have m := smalls g.is
  have hf := g.f16 f1 f2
  obtain ⟨k, rfl⟩ := Int.eq_ofNat_of_zero_le g.is.1
  have hk : k < 86 := by have := g.is.2; omega
  have m1 := m.s0; have m2 := m.s1; have m3 := m.o0; have m4 := m.o1; have m5 := m.i0; have m6 := m.i1; have g1 := g.d0; have g2 := g.d1; have g3 := g.s0; have g4 := g.s1
  have gs := g.fs; have go := g.fo; have gi := g.fi
  have hid : ∀ c, (immS k ≠ 0 → c = immS k) → identF (codeF k r).1 (s + srcS k) (f + offS k) c = ((k : Int), r, true) := fun c hc => ident_same k hk r (code_ok2 hk g.r3) _ _ _ (match_good hk g c hc)
  have e1 : (16 * (s + srcS k) + d) / 16 = s + srcS k := by omega
  have e2 : (16 * (s + srcS k) + d) % 16 = d := by omega
  have e3 : sx16 ((f + offS k) % 256 + 256 * ((f + offS k) / 256 % 256)) = f + offS k := by
    unfold sx16
    split <;> omega
  have e4 : immS k ≠ 0 → sx32 ((i + immS k) % 4294967296) = immS k := by
    intro hn
    have := gi.resolve_left hn
    unfold sx32
    split <;> omega
  have er : ¬ (d > 10 ∨ s + srcS k > 10) := by omega
  have es : s + srcS k - srcS k = s := by omega
  have ef : f + offS k - offS k = f := by omega
  rcases slots_12 hk with h1 | h2
  · have hr := imm32 g (by omega) i1 i2
    have e5 : sx32 ((i + immS k) % 4294967296) - immS k = i := by
      unfold sx32
      split <;> omega
    rw [enc8 rest (by omega), dec8, e1, e3, le4_eq, hid _ e4, decQ8 _ _ _ _ _ _ _ _ _ _ _ h1, e1, e2, e3, le4_eq, if_neg er, es, ef, e5, if_pos h]
  · have hm := immS_wide g.is h2
    have e5 : wrap64 (i / 4294967296 % 4294967296 * 4294967296 + (i + immS k) % 4294967296) = i := by
      unfold wrap64
      omega
    rw [enc16 rest h2, dec8, e1, e3, le4_eq, hid _ e4, decQ16 _ _ _ _ _ _ _ _ _ _ _ _ _ _ _ _ _ _ _ h2, e1, e2, e3, le4_eq, le4_eq, if_neg er, es, ef, e5, if_pos (by decide), if_pos h, h2]
theorem leB2_of {x0 x1 : Int} (h0 : 0 ≤ x0 ∧ x0 ≤ 255) (h1 : 0 ≤ x1 ∧ x1 ≤ 255) : leB 2 (x0 + 256 * x1) = [x0, x1] := by
  simp only [leB, List.cons.injEq, and_true]
  omega
theorem leB4_of {x0 x1 x2 x3 : Int} (h0 : 0 ≤ x0 ∧ x0 ≤ 255) (h1 : 0 ≤ x1 ∧ x1 ≤ 255) (h2 : 0 ≤ x2 ∧ x2 ≤ 255) (h3 : 0 ≤ x3 ∧ x3 ≤ 255) : leB 4 (x0 + 256 * x1 + 65536 * x2 + 16777216 * x3) = [x0, x1, x2, x3] := by
  simp only [leB, List.cons.injEq, and_true]
  omega
theorem sx16_mod (x : Int) : sx16 x % 65536 = x % 65536 := by unfold sx16; split <;> omega
theorem sx32_mod (x : Int) : sx32 x % 4294967296 = x % 4294967296 := by unfold sx32; split <;> omega
/-- What Decode accepts is the encoding of what it returns. -/
structure Enc (l : List Int) (o : Int) (r : Bool) (d s f i n : Int) : Prop where
  chk : checkF o r d s f i = 0
  n12 : n = 1 ∨ n = 2
  sl : n = slotsT (formS o)
  len : 8 * n ≤ l.length
  enc : encB o r d s f i = l.take (8 * n).toNat
  f1 : -9223372036854775808 ≤ f
  f2 : f ≤ 9223372036854775807
  i1 : -9223372036854775808 ≤ i
  i2 : i ≤ 9223372036854775807
theorem enc_dec {l : List Int} (hb : Bytes l) {o : Int} {r : Bool} {d s f i n : Int} (h : decB l = (o, r, d, s, f, i, n, 0)) : Enc l o r d s f i n := by
  by_cases h8 : (l.length : Int) < 8
  · unfold decB at h
    rw [if_pos h8] at h
    simp only [Prod.mk.injEq] at h
    omega
  match l, hb, h8, h with
  | c :: b :: x0 :: x1 :: y0 :: y1 :: y2 :: y3 :: t, hb, _, h =>
    have bb := hb b (by simp); have b0 := hb x0 (by simp); have b1 := hb x1 (by simp); have c0 := hb y0 (by simp); have c1 := hb y1 (by simp); have c2 := hb y2 (by simp); have c3 := hb y3 (by simp)
    rw [dec8] at h
    cases hq : (identF c (b / 16) (sx16 (x0 + 256 * x1)) (sx32 (y0 + 256 * y1 + 65536 * y2 + 16777216 * y3))).2.2 with
    | false =>
      revert hq h
      generalize identF c (b / 16) (sx16 (x0 + 256 * x1)) (sx32 (y0 + 256 * y1 + 65536 * y2 + 16777216 * y3)) = q
      obtain ⟨q1, q2, q3⟩ := q
      intro h hq
      obtain rfl : q3 = false := hq
      rw [decQ_no] at h
      simp only [Prod.mk.injEq] at h
      omega
    | true =>
      obtain ⟨k, hk, e1, e2, e3⟩ := ident_inv hq
      revert e1 e2 e3 hq h
      generalize identF c (b / 16) (sx16 (x0 + 256 * x1)) (sx32 (y0 + 256 * y1 + 65536 * y2 + 16777216 * y3)) = q
      obtain ⟨q1, r', q3⟩ := q
      intro h hq e1 e2 e3
      obtain rfl : q3 = true := hq
      obtain rfl : q1 = (k : Int) := e1
      have e3 : (codeF k r').1 = c := e3
      have m := smalls (o := (k : Int)) ⟨by omega, by omega⟩
      have m1 := m.s0; have m2 := m.s1; have m3 := m.o0; have m4 := m.o1; have m5 := m.i0; have m6 := m.i1
      have hsx : -32768 ≤ sx16 (x0 + 256 * x1) ∧ sx16 (x0 + 256 * x1) ≤ 32767 := by unfold sx16; split <;> omega
      have hsy : -2147483648 ≤ sx32 (y0 + 256 * y1 + 65536 * y2 + 16777216 * y3) ∧ sx32 (y0 + 256 * y1 + 65536 * y2 + 16777216 * y3) ≤ 2147483647 := by unfold sx32; split <;> omega
      have hl2 := leB2 (sx16 (x0 + 256 * x1)) (x0 + 256 * x1) (sx16_mod _)
      have hl4 := leB4 (sx32 (y0 + 256 * y1 + 65536 * y2 + 16777216 * y3)) (y0 + 256 * y1 + 65536 * y2 + 16777216 * y3) (sx32_mod _)
      have eb : 16 * (b / 16) + b % 16 = b := by omega
      rcases slots_12 hk with h1 | h2
      · rw [decQ8 _ _ _ _ _ _ _ _ _ _ _ h1] at h
        split at h
        · simp only [Prod.mk.injEq] at h
          omega
        · split at h
          · rename_i hc
            simp only [Prod.mk.injEq] at h
            obtain ⟨rfl, rfl, rfl, rfl, rfl, rfl, rfl, _⟩ := h
            refine ⟨hc, .inl h1, rfl, by rw [h1]; simp only [List.length_cons]; omega, ?_, by omega, by omega, by omega, by omega⟩
            unfold encB
            rw [if_neg (by omega), h1, Int.sub_add_cancel, Int.sub_add_cancel, Int.sub_add_cancel, eb, hl2, hl4, leB2_of b0 b1, leB4_of c0 c1 c2 c3, e3]
            rfl
          · simp only [Prod.mk.injEq] at h
            omega
      · by_cases h16 : ((c :: b :: x0 :: x1 :: y0 :: y1 :: y2 :: y3 :: t).length : Int) < 8 * slotsT (formS k)
        · rw [decQ_short _ _ _ h16] at h
          simp only [Prod.mk.injEq] at h
          omega
        · rw [h2] at h16
          have h16' : 8 ≤ t.length := by simp only [List.length_cons] at h16; omega
          match t, hb, h16', h with
          | z0 :: z1 :: z2 :: z3 :: v0 :: v1 :: v2 :: v3 :: t, hb, _, h =>
            have d0 := hb z0 (by simp); have d1 := hb z1 (by simp); have d2 := hb z2 (by simp); have d3 := hb z3 (by simp); have u0 := hb v0 (by simp); have u1 := hb v1 (by simp); have u2 := hb v2 (by simp); have u3 := hb v3 (by simp)
            rw [decQ16 _ _ _ _ _ _ _ _ _ _ _ _ _ _ _ _ _ _ _ h2] at h
            split at h
            · simp only [Prod.mk.injEq] at h
              omega
            · split at h
              · rename_i hz
                split at h
                · rename_i hc
                  simp only [Prod.mk.injEq] at h
                  obtain ⟨rfl, rfl, rfl, rfl, rfl, rfl, rfl, _⟩ := h
                  have hm := immS_wide (o := (k : Int)) ⟨by omega, by omega⟩ h2
                  have a1 := leB4 (wrap64 ((v0 + 256 * v1 + 65536 * v2 + 16777216 * v3) * 4294967296 + (y0 + 256 * y1 + 65536 * y2 + 16777216 * y3))) (y0 + 256 * y1 + 65536 * y2 + 16777216 * y3) (by unfold wrap64; omega)
                  have a2 := leB4 (wrap64 ((v0 + 256 * v1 + 65536 * v2 + 16777216 * v3) * 4294967296 + (y0 + 256 * y1 + 65536 * y2 + 16777216 * y3)) / 4294967296) (v0 + 256 * v1 + 65536 * v2 + 16777216 * v3) (by unfold wrap64; omega)
                  have a3 : leB 4 0 = [z0, z1, z2, z3] := by
                    rw [← hz]
                    exact leB4_of d0 d1 d2 d3
                  refine ⟨hc, .inr rfl, h2.symm, by simp only [List.length_cons]; omega, ?_, by omega, by omega, by unfold wrap64; omega, by unfold wrap64; omega⟩
                  unfold encB
                  rw [if_pos h2, Int.sub_add_cancel, Int.sub_add_cancel, hm, Int.add_zero, eb, hl2, a1, a2, a3, leB2_of b0 b1, leB4_of c0 c1 c2 c3, leB4_of u0 u1 u2 u3, e3]
                  rfl
                · simp only [Prod.mk.injEq] at h
                  omega
              · simp only [Prod.mk.injEq] at h
                omega
/-- An error comes with the zero instruction and no slot. -/
theorem dec_err (l : List Int) : (decB l).2.2.2.2.2.2.2 ≠ 0 → decB l = (0, false, 0, 0, 0, 0, 0, (decB l).2.2.2.2.2.2.2) := by
  unfold decB
  split
  · intro _; rfl
  · unfold decQ
    split
    · intro _; rfl
    · split
      · intro _; rfl
      · split
        · intro _; rfl
        · split
          · split
            · split
              · intro h; exact absurd rfl h
              · intro _; rfl
            · intro _; rfl
          · split
            · intro h; exact absurd rfl h
            · intro _; rfl
end Go.Proofs.YtnllfppkfdnjpabDoor.Q
