/- Chapter 5 in numbers, third part: both Decodes give decB; the bytes and the instruction determine each other. -/
import Derived.Test.YtnllfppkfdnjpabDoorPSl2
import Derived.Test.YtnllfppkfdnjpabDoorKx10
import Derived.Laws.Bits64b
namespace Go.Proofs.YtnllfppkfdnjpabDoor.Q
open Go Go.RowKit Go.Proofs.YtnllfppkfdnjpabDoor.Ops Go.Proofs.YtnllfppkfdnjpabDoorW.PrintWords

theorem or_u64_add (n : Nat) {x q : Int} (p : Int) (hp : (2 : Int) ^ n = p) (hx0 : 0 ≤ x) (hx : x < p) (hq : 0 ≤ q) (h64 : p * q < 18446744073709551616) (hx64 : x < 18446744073709551616) : Go.bits .or .u64 x (p * q) = x + p * q := by
  obtain ⟨a, rfl⟩ := Int.eq_ofNat_of_zero_le hx0
  obtain ⟨b, rfl⟩ := Int.eq_ofNat_of_zero_le hq
  subst hp
  have e : (2 : Int) ^ n * (b : Int) = ((2 ^ n * b : Nat) : Int) := by push_cast; rfl
  rw [e] at h64 ⊢
  have hx' : a < 2 ^ n := by
    have : ((a : Int)) < ((2 ^ n : Nat) : Int) := by push_cast; exact hx
    omega
  rw [bits_or_u64_nat _ _ (by omega) (by omega), Nat.or_comm, ← Nat.two_pow_add_eq_or_of_lt hx']
  omega
theorem bits_or_comm (x y : Int) : Go.bits .or .u64 x y = Go.bits .or .u64 y x := by
  show IntKind.u64.wrap ((BitVec.ofInt 64 x ||| BitVec.ofInt 64 y).toNat : Int) = IntKind.u64.wrap ((BitVec.ofInt 64 y ||| BitVec.ofInt 64 x).toNat : Int)
  rw [BitVec.or_comm]
theorem get_step (k : Nat) (l : List Int) (acc : Int) (i e : Nat) (p : Int) (n : Int) (he : e = 8 * i) (hp : (2 : Int) ^ e = p) (hp1 : p ≤ 16777216) (hil : i < l.length) (hn : (i : Int) < n) (h8 : i ≤ 3) (hb : Bytes l) (h0 : 0 ≤ acc) (h1 : acc < p) :
    slot_get.l0 (k + 1) l acc n i = slot_get.l0 k l (acc + p * rd l i) n ((i + 1 : Nat) : Int) := by
  have hr := rd_byte hb i
  have hw : wrap64 (8 * (i : Int)) = (e : Int) := by unfold wrap64; omega
  have hp0 : 0 < p := by omega
  have hm : rd l i * p ≤ 255 * p := Int.mul_le_mul_of_nonneg_right hr.2 (by omega)
  have hm0 : 0 ≤ rd l i * p := Int.mul_nonneg hr.1 (by omega)
  have hm1 : p * rd l i = rd l i * p := Int.mul_comm _ _
  rw [slot_get.l0, if_pos hn, if_pos (by omega), if_pos (by omega), hw, if_pos (by omega), u64w, Int.emod_eq_of_lt (by omega) (by omega), shlE _ e e p (by omega) rfl hp, Int.emod_eq_of_lt (by omega) (by omega), ← hm1,
    or_u64_add e p hp h0 h1 hr.1 (by omega) (by omega), show wrap64 ((i : Int) + 1) = ((i + 1 : Nat) : Int) by unfold wrap64; omega]
theorem get_end (k : Nat) (l : List Int) (acc n : Int) : slot_get.l0 (k + 1) l acc n n = some acc := by
  rw [slot_get.l0, if_neg (by omega)]
theorem get2 (k : Nat) (hk : 3 ≤ k) (a b : Int) (hb : Bytes [a, b]) : slot_get.f k [a, b] = some (a + 256 * b) := by
  obtain ⟨k, rfl⟩ : ∃ m, k = m + 1 + 1 + 1 := ⟨k - 3, by omega⟩
  have ha := hb a (by simp)
  unfold slot_get.f
  have e0 := get_step (k + 1 + 1) [a, b] 0 0 0 1 2 rfl (by decide) (by decide) (by simp) (by decide) (by decide) hb (by decide) (by decide)
  have e1 := get_step (k + 1) [a, b] (0 + 1 * a) 1 8 256 2 rfl (by decide) (by decide) (by simp) (by decide) (by decide) hb (by omega) (by omega)
  show slot_get.l0 (k + 1 + 1 + 1) [a, b] 0 2 ((0 : Nat) : Int) = _
  rw [e0]
  show slot_get.l0 (k + 1 + 1) [a, b] (0 + 1 * a) 2 ((1 : Nat) : Int) = _
  rw [e1]
  show slot_get.l0 (k + 1) [a, b] (0 + 1 * a + 256 * b) 2 2 = _
  rw [get_end]
  congr 1
  omega
theorem get4 (k : Nat) (hk : 5 ≤ k) (a b c d : Int) (hb : Bytes [a, b, c, d]) : slot_get.f k [a, b, c, d] = some (a + 256 * b + 65536 * c + 16777216 * d) := by
  obtain ⟨k, rfl⟩ : ∃ m, k = m + 1 + 1 + 1 + 1 + 1 := ⟨k - 5, by omega⟩
  have ha := hb a (by simp)
  have hb' := hb b (by simp)
  have hc := hb c (by simp)
  unfold slot_get.f
  have e0 := get_step (k + 1 + 1 + 1 + 1) [a, b, c, d] 0 0 0 1 4 rfl (by decide) (by decide) (by simp) (by decide) (by decide) hb (by decide) (by decide)
  have e1 := get_step (k + 1 + 1 + 1) [a, b, c, d] (0 + 1 * a) 1 8 256 4 rfl (by decide) (by decide) (by simp) (by decide) (by decide) hb (by omega) (by omega)
  have e2 := get_step (k + 1 + 1) [a, b, c, d] (0 + 1 * a + 256 * b) 2 16 65536 4 rfl (by decide) (by decide) (by simp) (by decide) (by decide) hb (by omega) (by omega)
  have e3 := get_step (k + 1) [a, b, c, d] (0 + 1 * a + 256 * b + 65536 * c) 3 24 16777216 4 rfl (by decide) (by decide) (by simp) (by decide) (by decide) hb (by omega) (by omega)
  show slot_get.l0 (k + 1 + 1 + 1 + 1 + 1) [a, b, c, d] 0 4 ((0 : Nat) : Int) = _
  rw [e0]
  show slot_get.l0 (k + 1 + 1 + 1 + 1) [a, b, c, d] (0 + 1 * a) 4 ((1 : Nat) : Int) = _
  rw [e1]
  show slot_get.l0 (k + 1 + 1 + 1) [a, b, c, d] (0 + 1 * a + 256 * b) 4 ((2 : Nat) : Int) = _
  rw [e2]
  show slot_get.l0 (k + 1 + 1) [a, b, c, d] (0 + 1 * a + 256 * b + 65536 * c) 4 ((3 : Nat) : Int) = _
  rw [e3]
  show slot_get.l0 (k + 1) [a, b, c, d] (0 + 1 * a + 256 * b + 65536 * c + 16777216 * d) 4 4 = _
  rw [get_end]
  congr 1
  omega
theorem take4drop2 (l : List Int) (h : 4 ≤ l.length) : (l.take 4).drop 2 = [rd l 2, rd l (2 + 1)] := by
  match l, h with
  | _ :: _ :: _ :: _ :: _, _ => rfl
theorem take8drop4 (l : List Int) (h : 8 ≤ l.length) : (l.take 8).drop 4 = [rd l 4, rd l (4 + 1), rd l (4 + 2), rd l (4 + 3)] := by
  match l, h with
  | _ :: _ :: _ :: _ :: _ :: _ :: _ :: _ :: _, _ => rfl
theorem take12drop8 (l : List Int) (h : 12 ≤ l.length) : (l.take 12).drop 8 = [rd l 8, rd l (8 + 1), rd l (8 + 2), rd l (8 + 3)] := by
  match l, h with
  | _ :: _ :: _ :: _ :: _ :: _ :: _ :: _ :: _ :: _ :: _ :: _ :: _, _ => rfl
theorem take16drop12 (l : List Int) (h : 16 ≤ l.length) : (l.take 16).drop 12 = [rd l 12, rd l (12 + 1), rd l (12 + 2), rd l (12 + 3)] := by
  match l, h with
  | _ :: _ :: _ :: _ :: _ :: _ :: _ :: _ :: _ :: _ :: _ :: _ :: _ :: _ :: _ :: _ :: _, _ => rfl
theorem bytes2 {l : List Int} (h : Bytes l) (i j : Int) : Bytes [rd l i, rd l j] := by
  intro x hx
  simp only [List.mem_cons, List.not_mem_nil, or_false] at hx
  rcases hx with rfl | rfl <;> exact rd_byte h _
theorem bytes4 {l : List Int} (h : Bytes l) (i j m n : Int) : Bytes [rd l i, rd l j, rd l m, rd l n] := by
  intro x hx
  simp only [List.mem_cons, List.not_mem_nil, or_false] at hx
  rcases hx with rfl | rfl | rfl | rfl <;> exact rd_byte h _
theorem g2_range {l : List Int} (h : Bytes l) (j : Int) : 0 ≤ g2 l j ∧ g2 l j < 65536 := by
  have h1 := rd_byte h j
  have h2 := rd_byte h (j + 1)
  unfold g2
  omega
theorem g4_range {l : List Int} (h : Bytes l) (j : Int) : 0 ≤ g4 l j ∧ g4 l j < 4294967296 := by
  have h1 := rd_byte h j
  have h2 := rd_byte h (j + 1)
  have h3 := rd_byte h (j + 2)
  have h4 := rd_byte h (j + 3)
  unfold g4
  omega
theorem ext16 {x : Int} (h0 : 0 ≤ x) (h1 : x < 65536) : num_Extend.f x 16 = some (sx16 x) := by
  rw [numExt16]
  congr 1
  unfold sx16 wrap64
  split <;> omega
theorem ext32 {x : Int} (h0 : 0 ≤ x) (h1 : x < 4294967296) : num_Extend.f x 32 = some (sx32 x) := by
  rw [numExt32]
  congr 1
  unfold sx32 wrap64
  split <;> omega
theorem u8w (x : Int) : IntKind.u8.wrap x = x % 256 := by
  simp [IntKind.wrap, IntKind.signed, IntKind.bits]
theorem and15 {x : Int} (h0 : 0 ≤ x) (h1 : x ≤ 255) : Go.bits .and .u8 x 15 = x % 16 := by
  obtain ⟨a, rfl⟩ := Int.eq_ofNat_of_zero_le h0
  have hx : (a &&& 15) = a % 16 := Nat.and_two_pow_sub_one_eq_mod a 4
  have e1 : (BitVec.ofInt 8 (a : Int)).toNat = a := by
    rw [BitVec.ofInt_natCast, BitVec.toNat_ofNat]; exact Nat.mod_eq_of_lt (by omega)
  show IntKind.u8.wrap ((BitVec.ofInt 8 (a : Int) &&& BitVec.ofInt 8 15).toNat : Int) = _
  rw [BitVec.toNat_and, e1, show (BitVec.ofInt 8 15).toNat = 15 from rfl, hx]
  rw [u8w]
  omega
theorem bindE {α β : Type} {x : Option α} {a : α} {f : α → Option β} {r : Option β} (h : x = some a) (h2 : f a = r) : x.bind f = r := by
  rw [h]
  exact h2
theorem getA2 (k : Nat) (hk : 10 ≤ k) (l : List Int) (hb : Bytes l) (h : 4 ≤ l.length) : slot_get.f k ((l.take 4).drop 2) = some (g2 l 2) := by
  rw [take4drop2 l h, get2 k (by omega) _ _ (bytes2 hb _ _)]
  rfl
theorem getA4 (k : Nat) (hk : 10 ≤ k) (l : List Int) (hb : Bytes l) (h : 8 ≤ l.length) : slot_get.f k ((l.take 8).drop 4) = some (g4 l 4) := by
  rw [take8drop4 l h, get4 k (by omega) _ _ _ _ (bytes4 hb _ _ _ _)]
  rfl
theorem getA8 (k : Nat) (hk : 10 ≤ k) (l : List Int) (hb : Bytes l) (h : 12 ≤ l.length) : slot_get.f k ((l.take 12).drop 8) = some (g4 l 8) := by
  rw [take12drop8 l h, get4 k (by omega) _ _ _ _ (bytes4 hb _ _ _ _)]
  rfl
theorem getA12 (k : Nat) (hk : 10 ≤ k) (l : List Int) (hb : Bytes l) (h : 16 ≤ l.length) : slot_get.f k ((l.take 16).drop 12) = some (g4 l 12) := by
  rw [take16drop12 l h, get4 k (by omega) _ _ _ _ (bytes4 hb _ _ _ _)]
  rfl
theorem decQ_ok (l : List Int) (o : Int) (r : Bool) : decQ l (o, r, true) = 
  if (l.length : Int) < 8 * slotsT (formS o) then (0, false, 0, 0, 0, 0, 0, 17) else
  if rd l 1 % 16 > 10 ∨ rd l 1 / 16 > 10 then (0, false, 0, 0, 0, 0, 0, 5) else
  if slotsT (formS o) = 2 then
    if g4 l 8 = 0 then
      if checkF o r (rd l 1 % 16) (rd l 1 / 16 - srcS o) (sx16 (g2 l 2) - offS o) (wrap64 (g4 l 12 * 4294967296 + g4 l 4)) = 0 then
        (o, r, rd l 1 % 16, rd l 1 / 16 - srcS o, sx16 (g2 l 2) - offS o, wrap64 (g4 l 12 * 4294967296 + g4 l 4), 2, 0)
      else (0, false, 0, 0, 0, 0, 0, 12)
    else (0, false, 0, 0, 0, 0, 0, 12)
  else
    if checkF o r (rd l 1 % 16) (rd l 1 / 16 - srcS o) (sx16 (g2 l 2) - offS o) (sx32 (g4 l 4) - immS o) = 0 then
      (o, r, rd l 1 % 16, rd l 1 / 16 - srcS o, sx16 (g2 l 2) - offS o, sx32 (g4 l 4) - immS o, slotsT (formS o), 0)
    else (0, false, 0, 0, 0, 0, 0, 12) := by
  unfold decQ
  exact if_neg (by simp)
theorem decQ_bad (l : List Int) (o : Int) (r : Bool) : decQ l (o, r, false) = (0, false, 0, 0, 0, 0, 0, 6) := by
  unfold decQ
  exact if_pos rfl
theorem sx16_range (x : Int) (h : 0 ≤ x) (h2 : x < 65536) : -32768 ≤ sx16 x ∧ sx16 x ≤ 32767 := by unfold sx16; split <;> omega
theorem sx32_range (x : Int) (h : 0 ≤ x) (h2 : x < 4294967296) : -2147483648 ≤ sx32 x ∧ sx32 x ≤ 2147483647 := by unfold sx32; split <;> omega
theorem mx11 (a b : Int) : (mx a b ≥ 11) ↔ (a > 10 ∨ b > 10) := by unfold mx; split <;> omega
theorem or64 {a b : Int} (h0 : 0 ≤ a) (h1 : a < 4294967296) (h2 : 0 ≤ b) (h3 : b < 4294967296) : Go.bits .or .u64 (IntKind.u64.wrap (a * 4294967296)) b = a * 4294967296 + b := by
  have h := or_u64_add 32 (x := b) (q := a) 4294967296 (by decide) h2 h3 h0 (by omega) (by omega)
  rw [u64w, Int.emod_eq_of_lt (by omega) (by omega), bits_or_comm, Int.mul_comm a, h]
  omega
theorem ident_ok {code a b c : Int} : (identF code a b c).2.2 = true → ∃ m : Nat, m < 86 ∧ (identF code a b c).1 = m := fun h => by
  obtain ⟨m, hm, e, _⟩ := ident_inv h
  exact ⟨m, hm, e⟩
/-- decB, one field after the other. -/
theorem dec_f (k : Nat) (hk : 10 ≤ k) (l : List Int) (hb : Bytes l) : slot_Decode.f k l = some (decB l) := by
  have r1 := rd_byte hb 1
  have q2 := g2_range hb 2
  have q4 := g4_range hb 4
  have w1 : wrap64 (rd l 1 / 16) = rd l 1 / 16 := by unfold wrap64; omega
  have w2 : wrap64 (Go.bits .and .u8 (rd l 1) 15) = rd l 1 % 16 := by rw [and15 r1.1 r1.2]; unfold wrap64; omega
  have hsx := sx16_range _ q2.1 q2.2
  have hsy := sx32_range _ q4.1 q4.2
  have hid := @ident_ok (rd l 0) (rd l 1 / 16) (sx16 (g2 l 2)) (sx32 (g4 l 4))
  by_cases h8 : (l.length : Int) < 8
  · have e1 : decB l = (0, false, 0, 0, 0, 0, 0, 17) := by unfold decB; exact if_pos h8
    rw [e1]
    unfold slot_Decode.f
    exact if_pos h8
  · have e1 : decB l = decQ l (identF (rd l 0) (rd l 1 / 16) (sx16 (g2 l 2)) (sx32 (g4 l 4))) := by unfold decB; exact if_neg h8
    rw [e1]
    clear e1
    unfold slot_Decode.f
    refine (if_neg h8).trans ?_
    refine (if_pos (by omega)).trans ?_
    refine (if_pos (by omega)).trans ?_
    refine (if_pos (by omega)).trans ?_
    refine bindE (getA2 k hk l hb (by omega)) ?_
    refine bindE (ext16 q2.1 q2.2) ?_
    refine (if_pos (by omega)).trans ?_
    refine (if_pos (by omega)).trans ?_
    refine bindE (getA4 k hk l hb (by omega)) ?_
    refine bindE (ext32 q4.1 q4.2) ?_
    refine (if_pos (by omega)).trans ?_
    rw [w1, w2]
    have hI : ops_Identify.f (rd l 0) (rd l 1 / 16) (sx16 (g2 l 2)) (sx32 (g4 l 4)) = some (identF (rd l 0) (rd l 1 / 16) (sx16 (g2 l 2)) (sx32 (g4 l 4))) := by unfold ops_Identify.f; rfl
    generalize identF (rd l 0) (rd l 1 / 16) (sx16 (g2 l 2)) (sx32 (g4 l 4)) = q at hI hid ⊢
    refine bindE hI ?_
    clear hI
    obtain ⟨o, r, ok⟩ := q
    cases ok with
    | false =>
      rw [decQ_bad]
      exact if_neg (by simp)
    | true =>
      obtain ⟨m, hm, e⟩ := hid rfl
      obtain rfl : o = (m : Int) := e
      rw [decQ_ok]
      have sm := smalls (o := (m : Int)) ⟨by omega, by omega⟩
      have s1 := sm.s0; have s2 := sm.s1; have s3 := sm.o0; have s4 := sm.o1; have s5 := sm.i0; have s6 := sm.i1
      have hs := slots_12 hm
      have u1 : wrap64 (rd l 1 / 16 - srcS m) = rd l 1 / 16 - srcS m := by unfold wrap64; omega
      have u2 : wrap64 (sx16 (g2 l 2) - offS m) = sx16 (g2 l 2) - offS m := by unfold wrap64; omega
      have u3 : wrap64 (sx32 (g4 l 4) - immS m) = sx32 (g4 l 4) - immS m := by unfold wrap64; omega
      have u4 : wrap64 (slotsT (formS m) * 8) = 8 * slotsT (formS m) := by unfold wrap64; omega
      obtain ⟨fx, hF, fx1, fx2, fx3⟩ : ∃ t : Int × Int × Int, ops_Fixed.f (m : Int) = some t ∧ t.1 = srcS m ∧ t.2.1 = offS m ∧ t.2.2 = immS m := ⟨_, by unfold ops_Fixed.f; rfl, rfl, rfl, rfl⟩
      refine (if_pos rfl).trans ?_
      refine bindE (slots_f m) ?_
      rw [u4]
      by_cases hl : (l.length : Int) < 8 * slotsT (formS m)
      · rw [if_pos hl, if_pos hl]
      · rw [if_neg hl, if_neg hl]
        by_cases h5 : rd l 1 % 16 > 10 ∨ rd l 1 / 16 > 10
        · rw [if_pos h5]
          exact if_pos ((mx11 _ _).2 h5)
        · rw [if_neg h5]
          refine (if_neg (fun h => h5 ((mx11 _ _).1 h))).trans ?_
          refine bindE hF ?_
          rw [fx1, fx2, fx3, u1, u2, u3]
          by_cases h2 : slotsT (formS m) = 2
          · rw [if_pos h2, if_pos h2]
            refine (if_pos (by omega)).trans ?_
            refine (if_pos (by omega)).trans ?_
            refine bindE (getA8 k hk l hb (by omega)) ?_
            by_cases h0 : g4 l 8 = 0
            · rw [if_pos h0, if_pos h0]
              refine (if_pos (by omega)).trans ?_
              refine (if_pos (by omega)).trans ?_
              refine bindE (getA12 k hk l hb (by omega)) ?_
              refine bindE (getA4 k hk l hb (by omega)) ?_
              have q12 := g4_range hb 12
              rw [or64 q12.1 q12.2 q4.1 q4.2]
              refine bindE (a := checkF m r (rd l 1 % 16) (rd l 1 / 16 - srcS m) (sx16 (g2 l 2) - offS m) (wrap64 (g4 l 12 * 4294967296 + g4 l 4))) (by unfold insn_Check.f; rfl) ?_
              by_cases hc : checkF m r (rd l 1 % 16) (rd l 1 / 16 - srcS m) (sx16 (g2 l 2) - offS m) (wrap64 (g4 l 12 * 4294967296 + g4 l 4)) = 0
              · rw [if_pos hc, if_pos hc]
                rw [h2]
              · rw [if_neg hc, if_neg hc]
            · rw [if_neg h0, if_neg h0]
          · rw [if_neg h2, if_neg h2]
            refine bindE (a := checkF m r (rd l 1 % 16) (rd l 1 / 16 - srcS m) (sx16 (g2 l 2) - offS m) (sx32 (g4 l 4) - immS m)) (by unfold insn_Check.f; rfl) ?_
            by_cases hc : checkF m r (rd l 1 % 16) (rd l 1 / 16 - srcS m) (sx16 (g2 l 2) - offS m) (sx32 (g4 l 4) - immS m) = 0
            · rw [if_pos hc, if_pos hc]
            · rw [if_neg hc, if_neg hc]
end Go.Proofs.YtnllfppkfdnjpabDoor.Q
