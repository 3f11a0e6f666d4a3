/- Chapter 5 in numbers, first part: little-endian bytes, and the bytes of an instruction. -/
import Derived.Test.YtnllfppkfdnjpabDoorRcf
import Derived.Test.YtnllfppkfdnjpabDoorKx7
import Derived.Test.YtnllfppkfdnjpabDoorKx8
import Derived.Laws.Bits64b
namespace Go.Proofs.YtnllfppkfdnjpabDoor.Q
open Go Go.RowKit Go.Proofs.YtnllfppkfdnjpabDoor.Ops Go.Proofs.YtnllfppkfdnjpabDoorW.PrintWords

def leB : Nat → Int → List Int
  | 0, _ => []
  | n + 1, x => x % 256 :: leB n (x / 256)
theorem leB_length : ∀ (n : Nat) (x : Int), (leB n x).length = n
  | 0, _ => rfl
  | n + 1, x => by rw [leB, List.length_cons, leB_length n]
theorem leB2 (x y : Int) (h : x % 65536 = y % 65536) : leB 2 x = leB 2 y := by
  simp only [leB, List.cons.injEq, and_true]
  omega
theorem leB4 (x y : Int) (h : x % 4294967296 = y % 4294967296) : leB 4 x = leB 4 y := by
  simp only [leB, List.cons.injEq, and_true]
  omega
theorem wrapS {i : Int} (h0 : 0 ≤ i) (h : i ≤ 1000) : wrap64 (i + 1) = i + 1 := by unfold wrap64; omega
theorem put_int : ∀ (d k : Nat) (out : List Int) (x i : Int), 0 ≤ i → i + d ≤ 100 → d < k → out.length + d ≤ 1000 → slot_put_int.l0 k out x (i + d) i = some (out ++ leB d x)
  | 0, k, out, x, i, _, _, hk, _ => by
    obtain ⟨k, rfl⟩ : ∃ m, k = m + 1 := ⟨k - 1, by omega⟩
    rw [slot_put_int.l0, if_neg (by omega), leB, List.append_nil]
  | d + 1, k, out, x, i, h0, h1, hk, hl => by
    obtain ⟨k, rfl⟩ : ∃ m, k = m + 1 := ⟨k - 1, by omega⟩
    rw [slot_put_int.l0, if_pos (by omega), if_pos (by omega), wrapS h0 (by omega)]
    have := put_int d k (out ++ [x % 256]) (x / 256) (i + 1) (by omega) (by omega) (by omega) (by simp; omega)
    rw [show i + 1 + (d : Int) = i + ((d + 1 : Nat) : Int) by omega] at this
    rw [this, leB, List.append_assoc]
    rfl
theorem put_int64 : ∀ (d k : Nat) (out : List Int) (x i : Int), 0 ≤ i → i + d ≤ 100 → d < k → out.length + d ≤ 1000 → slot_put_int64.l0 k out x (i + d) i = some (out ++ leB d x)
  | 0, k, out, x, i, _, _, hk, _ => by
    obtain ⟨k, rfl⟩ : ∃ m, k = m + 1 := ⟨k - 1, by omega⟩
    rw [slot_put_int64.l0, if_neg (by omega), leB, List.append_nil]
  | d + 1, k, out, x, i, h0, h1, hk, hl => by
    obtain ⟨k, rfl⟩ : ∃ m, k = m + 1 := ⟨k - 1, by omega⟩
    rw [slot_put_int64.l0, if_pos (by omega), if_pos (by omega), wrapS h0 (by omega)]
    have := put_int64 d k (out ++ [x % 256]) (x / 256) (i + 1) (by omega) (by omega) (by omega) (by simp; omega)
    rw [show i + 1 + (d : Int) = i + ((d + 1 : Nat) : Int) by omega] at this
    rw [this, leB, List.append_assoc]
    rfl
theorem put_ref : ∀ (d k : Nat) (out : List Int) (x i : Int), 0 ≤ x → x < 18446744073709551616 → 0 ≤ i → i + d ≤ 100 → d < k → out.length + d ≤ 1000 → slotcoderef05_put.l0 k out x (i + d) i = some (out ++ leB d x)
  | 0, k, out, x, i, _, _, _, _, hk, _ => by
    obtain ⟨k, rfl⟩ : ∃ m, k = m + 1 := ⟨k - 1, by omega⟩
    rw [slotcoderef05_put.l0, if_neg (by omega), leB, List.append_nil]
  | d + 1, k, out, x, i, x0, x1, h0, h1, hk, hl => by
    obtain ⟨k, rfl⟩ : ∃ m, k = m + 1 := ⟨k - 1, by omega⟩
    have e1 : Int.tmod x 256 % 256 = x % 256 := by rw [Int.tmod_eq_emod_of_nonneg x0]; omega
    have e2 : IntKind.u64.wrap (Int.tdiv x 256) = x / 256 := by rw [Int.tdiv_eq_ediv_of_nonneg x0, u64w]; omega
    rw [slotcoderef05_put.l0, if_pos (by omega), if_pos (by omega), wrapS h0 (by omega), e1, e2]
    have := put_ref d k (out ++ [x % 256]) (x / 256) (i + 1) (by omega) (by omega) (by omega) (by omega) (by omega) (by simp; omega)
    rw [show i + 1 + (d : Int) = i + ((d + 1 : Nat) : Int) by omega] at this
    rw [this, leB, List.append_assoc]
    rfl
theorem put_int_f (d k : Nat) (out : List Int) (x n : Int) (hn : n = d) (h1 : d ≤ 100) (hk : d < k) (hl : out.length + d ≤ 1000) : slot_put_int.f k out x n = some (out ++ leB d x) := by
  have := put_int d k out x 0 (by omega) (by omega) hk hl
  rw [Int.zero_add, ← hn] at this
  exact this
theorem put_int64_f (d k : Nat) (out : List Int) (x n : Int) (hn : n = d) (h1 : d ≤ 100) (hk : d < k) (hl : out.length + d ≤ 1000) : slot_put_int64.f k out x n = some (out ++ leB d x) := by
  have := put_int64 d k out x 0 (by omega) (by omega) hk hl
  rw [Int.zero_add, ← hn] at this
  exact this
theorem put_ref_f (d k : Nat) (out : List Int) (x n : Int) (hn : n = d) (h1 : d ≤ 100) (hk : d < k) (hl : out.length + d ≤ 1000) (x0 : 0 ≤ x) (x1 : x < 18446744073709551616) : slotcoderef05_put.f k out x n = some (out ++ leB d x) := by
  have := put_ref d k out x 0 x0 x1 (by omega) (by omega) hk hl
  rw [Int.zero_add, ← hn] at this
  exact this

/-- What is so of a correct instruction. -/
theorem chk0 {o : Int} {r : Bool} {d s f i : Int} (h : checkF o r d s f i = 0) :
    Is o ∧ r3B o r = false ∧ r4B d s f i (usesT (formS o) r) = false ∧ (0 ≤ d ∧ d ≤ 10) ∧ (0 ≤ s ∧ s ≤ 10) ∧ fitB f 16 = true ∧ immB o i = true := by
  unfold checkF at h
  split at h
  · omega
  · rename_i h0
    have hI : Is o := by
      by_cases h' : Is o
      · exact h'
      · rw [formS_out h'] at h0
        omega
    cases h3 : r3B o r with
    | true => simp [h3] at h
    | false =>
      cases h4 : r4B d s f i (usesT (formS o) r) with
      | true => simp [h3, h4] at h
      | false =>
        simp only [h3, h4, Bool.false_eq_true, if_false] at h
        split at h
        · omega
        · rename_i h5
          split at h
          · omega
          · rename_i h6
            unfold regB at h5
            simp only [r6B, Bool.or_eq_true, Bool.not_eq_true', not_or, Bool.not_eq_false, Bool.and_eq_true, decide_eq_true_eq] at h5 h6
            exact ⟨hI, rfl, rfl, by omega, by omega, h6.1, h6.2⟩
/-- A field that an operation fixes is not used. -/
theorem fix_all (r : Bool) : (List.range 86).map (fun n => (r && formS (Int.ofNat n) != 0 && formS (Int.ofNat n) != 4) || ((srcS (Int.ofNat n) == 0 || !(usesT (formS (Int.ofNat n)) r).2.1) && (offS (Int.ofNat n) == 0 || !(usesT (formS (Int.ofNat n)) r).2.2.1) && (immS (Int.ofNat n) == 0 || !(usesT (formS (Int.ofNat n)) r).2.2.2))) = (List.range 86).map (fun _ => true) := by
  cases r <;> kernel_rfl
theorem small_all : (List.range 86).map (fun n => (srcS (Int.ofNat n) == 0 || srcS (Int.ofNat n) == 1) && (decide (0 ≤ offS (Int.ofNat n)) && decide (offS (Int.ofNat n) ≤ 32)) && (decide (0 ≤ immS (Int.ofNat n)) && decide (immS (Int.ofNat n) ≤ 64)) && (decide (0 ≤ codeS (Int.ofNat n)) && decide (codeS (Int.ofNat n) ≤ 240)) && (immS (Int.ofNat n) == 0 || formS (Int.ofNat n) == 1)) = (List.range 86).map (fun _ => true) := by kernel_rfl
structure Smalls (o : Int) : Prop where
  s0 : 0 ≤ srcS o
  s1 : srcS o ≤ 1
  o0 : 0 ≤ offS o
  o1 : offS o ≤ 32
  i0 : 0 ≤ immS o
  i1 : immS o ≤ 64
  c0 : 0 ≤ codeS o
  c1 : codeS o ≤ 240
  if_ : immS o = 0 ∨ formS o = 1
theorem smalls {o : Int} (h : Is o) : Smalls o := by
  have e := in_rangeQ (f := fun n => (srcS n == 0 || srcS n == 1) && (decide (0 ≤ offS n) && decide (offS n ≤ 32)) && (decide (0 ≤ immS n) && decide (immS n ≤ 64)) && (decide (0 ≤ codeS n) && decide (codeS n ≤ 240)) && (immS n == 0 || formS n == 1)) (g := fun _ => true) small_all o h
  simp only [Bool.and_eq_true, Bool.or_eq_true, beq_iff_eq, decide_eq_true_eq] at e
  obtain ⟨⟨⟨⟨a, b⟩, c⟩, d⟩, f⟩ := e
  exact ⟨by omega, by omega, by omega, by omega, by omega, by omega, by omega, by omega, f⟩
structure Good (o : Int) (r : Bool) (d s f i : Int) : Prop where
  is : Is o
  r3 : r3B o r = false
  r4 : r4B d s f i (usesT (formS o) r) = false
  d0 : 0 ≤ d
  d1 : d ≤ 10
  s0 : 0 ≤ s
  s1 : s ≤ 10
  fs : srcS o = 0 ∨ s = 0
  fo : offS o = 0 ∨ f = 0
  fi : immS o = 0 ∨ i = 0
  ft : fitB f 16 = true
  im : immB o i = true
theorem good {o : Int} {r : Bool} {d s f i : Int} (h : checkF o r d s f i = 0) : Good o r d s f i := by
  obtain ⟨h1, h2, h3, ⟨h4, h5⟩, ⟨h6, h7⟩, h8, h9⟩ := chk0 h
  have e := in_rangeQ (f := fun n => (r && formS n != 0 && formS n != 4) || ((srcS n == 0 || !(usesT (formS n) r).2.1) && (offS n == 0 || !(usesT (formS n) r).2.2.1) && (immS n == 0 || !(usesT (formS n) r).2.2.2))) (g := fun _ => true) (fix_all r) o h1
  have h2' : (r && formS o != 0 && formS o != 4) = false := h2
  simp only [h2', Bool.false_or, Bool.and_eq_true, Bool.or_eq_true, beq_iff_eq, Bool.not_eq_true'] at e
  have h3' := h3
  simp only [r4B, Bool.or_eq_false_iff, Bool.and_eq_false_iff, Bool.not_eq_false', bne_eq_false_iff_eq] at h3'
  obtain ⟨⟨⟨_, a⟩, b⟩, c⟩ := h3'
  obtain ⟨⟨e1, e2⟩, e3⟩ := e
  refine ⟨h1, h2, h3, h4, h5, h6, h7, ?_, ?_, ?_, h8, h9⟩
  · rcases e1 with e1 | e1
    · exact .inl e1
    · rcases a with a | a
      · rw [a] at e1; cases e1
      · exact .inr a
  · rcases e2 with e1 | e1
    · exact .inl e1
    · rcases b with a | a
      · rw [a] at e1; cases e1
      · exact .inr a
  · rcases e3 with e1 | e1
    · exact .inl e1
    · rcases c with a | a
      · rw [a] at e1; cases e1
      · exact .inr a
theorem Good.f16 {o : Int} {r : Bool} {d s f i : Int} (h : Good o r d s f i) (f1 : -9223372036854775808 ≤ f) (f2 : f ≤ 9223372036854775807) : -32768 ≤ f ∧ f ≤ 32767 := by
  have := h.ft
  rw [fit16 f f1 f2] at this
  simpa using this

theorem i64w (x : Int) : IntKind.i64.wrap x = wrap64 x := by
  unfold wrap64
  rw [IntKind.wrap_i64]
  try rfl
theorem bits_or_i64_nat (a b : Nat) (ha : a < 9223372036854775808) (hb : b < 9223372036854775808) : Go.bits .or .i64 (a : Int) (b : Int) = ((a ||| b : Nat) : Int) := by
  have hx : a ||| b < 2 ^ 63 := Nat.or_lt_two_pow (by omega) (by omega)
  have h1 : (BitVec.ofInt 64 (a : Int)).toNat = a := by
    rw [BitVec.ofInt_natCast, BitVec.toNat_ofNat]; exact Nat.mod_eq_of_lt (by omega)
  have h2 : (BitVec.ofInt 64 (b : Int)).toNat = b := by
    rw [BitVec.ofInt_natCast, BitVec.toNat_ofNat]; exact Nat.mod_eq_of_lt (by omega)
  show IntKind.i64.wrap ((BitVec.ofInt 64 (a : Int) ||| BitVec.ofInt 64 (b : Int)).toNat : Int) = _
  rw [BitVec.toNat_or, h1, h2, i64w]
  unfold wrap64
  omega
theorem toNat_ofInt64 (x : Int) : ((BitVec.ofInt 64 x).toNat : Int) = x % 18446744073709551616 := by
  rw [BitVec.toNat_ofInt]
  omega
theorem bits_or_z (x : Int) (h1 : -9223372036854775808 ≤ x) (h2 : x ≤ 9223372036854775807) : Go.bits .or .i64 x 0 = x := by
  show IntKind.i64.wrap ((BitVec.ofInt 64 x ||| BitVec.ofInt 64 0).toNat : Int) = _
  rw [show BitVec.ofInt 64 0 = 0#64 from rfl, BitVec.or_zero, toNat_ofInt64, i64w]
  unfold wrap64
  omega
theorem bits_z_or (x : Int) (h1 : -9223372036854775808 ≤ x) (h2 : x ≤ 9223372036854775807) : Go.bits .or .i64 0 x = x := by
  show IntKind.i64.wrap ((BitVec.ofInt 64 0 ||| BitVec.ofInt 64 x).toNat : Int) = _
  rw [show BitVec.ofInt 64 0 = 0#64 from rfl, BitVec.zero_or, toNat_ofInt64, i64w]
  unfold wrap64
  omega
theorem or_add {x y : Int} (h : y = 0 ∨ x = 0) (h1 : -9223372036854775808 ≤ x) (h2 : x ≤ 9223372036854775807) (h3 : -9223372036854775808 ≤ y) (h4 : y ≤ 9223372036854775807) : Go.bits .or .i64 x y = x + y := by
  rcases h with rfl | rfl
  · rw [bits_or_z x h1 h2, Int.add_zero]
  · rw [bits_z_or y h3 h4, Int.zero_add]
theorem or16_add {x y : Int} (h0 : 0 ≤ x) (h1 : x ≤ 100) (h2 : 0 ≤ y) (h3 : y ≤ 15) : Go.bits .or .i64 (x * 16) y = 16 * x + y := by
  obtain ⟨a, rfl⟩ := Int.eq_ofNat_of_zero_le h0
  obtain ⟨b, rfl⟩ := Int.eq_ofNat_of_zero_le h2
  rw [show (a : Int) * 16 = ((2 ^ 4 * a : Nat) : Int) by omega, bits_or_i64_nat _ _ (by omega) (by omega), ← Nat.two_pow_add_eq_or_of_lt (i := 4) (by omega)]
  omega

def slotsT (t : Int) : Int := if t = -1 then 0 else if t = 10 then 2 else if t = 11 then 2 else 1
theorem slots_f (o : Int) : insn_Slots.f o = some (slotsT (formS o)) := by
  unfold insn_Slots.f ops_Form.f slotsT
  simp only [Option.bind_some]
  by_cases h1 : formS o = -1
  · rw [if_pos h1, if_pos h1]
  · rw [if_neg h1, if_neg h1]
    by_cases h2 : formS o = 10
    · rw [if_pos h2, if_pos h2]
    · rw [if_neg h2, if_neg h2]
      by_cases h3 : formS o = 11
      · rw [if_pos h3, if_pos h3]
      · rw [if_neg h3, if_neg h3]
theorem rslots_f (k : Nat) (hk : 5 ≤ k) (o : Int) : slotcoderef04_Slots.f k o = some (slotsT (formS o)) := by
  unfold slotcoderef04_Slots.f
  rw [form_f k hk o]
  have hr := formS_range o
  simp only [Option.bind_some, slotsT]
  by_cases h1 : formS o = -1
  · rw [if_pos (by omega), if_pos h1]
  · rw [if_neg (by omega), if_neg h1]
    by_cases h2 : formS o ≥ 10
    · rw [if_pos h2]
      by_cases h3 : formS o = 10
      · rw [if_pos h3]
      · rw [if_neg h3, if_pos (by omega)]
    · rw [if_neg h2, if_neg (by omega), if_neg (by omega)]
/-- The bytes of an instruction. -/
def encB (o : Int) (r : Bool) (d s f i : Int) : List Int :=
  [(codeF o r).1, 16 * (s + srcS o) + d] ++ leB 2 (f + offS o) ++ leB 4 (i + immS o) ++ (if slotsT (formS o) = 2 then leB 4 0 ++ leB 4 (i / 4294967296) else [])
theorem encB_length (o : Int) (r : Bool) (d s f i : Int) : (encB o r d s f i).length = if slotsT (formS o) = 2 then 16 else 8 := by
  unfold encB
  split <;> simp [leB_length]
theorem immS_wide {o : Int} (h : Is o) (h2 : slotsT (formS o) = 2) : immS o = 0 := by
  rcases (smalls h).if_ with k | k
  · exact k
  · rw [k] at h2
    unfold slotsT at h2
    omega
theorem enc_f (k : Nat) (hk : 10 ≤ k) (o : Int) (r : Bool) (d s f i : Int) (f1 : -9223372036854775808 ≤ f) (f2 : f ≤ 9223372036854775807) (i1 : -9223372036854775808 ≤ i) (i2 : i ≤ 9223372036854775807) :
    slot_Encode.f k o r d s f i = some (if checkF o r d s f i = 0 then (encB o r d s f i, 0) else ([], checkF o r d s f i)) := by
  unfold slot_Encode.f insn_Check.f ops_Code.f ops_Fixed.f
  simp only [Option.bind_some]
  by_cases h : checkF o r d s f i = 0
  · rw [if_pos h, if_pos h]
    have g := good h
    have m := smalls g.is
    have hf := g.f16 f1 f2
    have m1 := m.s0; have m2 := m.s1; have m3 := m.o0; have m4 := m.o1; have m5 := m.i0; have m6 := m.i1; have g1 := g.d0; have g2 := g.d1; have g3 := g.s0; have g4 := g.s1
    rw [or_add g.fs (by omega) (by omega) (by omega) (by omega), or_add g.fo (by omega) (by omega) (by omega) (by omega), or_add g.fi (by omega) (by omega) (by omega) (by omega),
      show wrap64 ((s + srcS o) * 16) = (s + srcS o) * 16 by unfold wrap64; omega, or16_add (by omega) (by omega) (by omega) (by omega), Int.emod_eq_of_lt (by omega) (by omega)]
    simp only [if_pos (show (0 : Nat) ≤ 281474976710656 by omega), List.replicate_zero, List.nil_append, List.length_nil, List.length_cons, if_pos (show 0 + (0 + 1 + 1) < 140737488355328 by omega)]
    rw [put_int_f 2 k _ _ 2 rfl (by omega) (by omega) (by simp)]
    simp only [Option.bind_some]
    rw [put_int64_f 4 k _ _ 4 rfl (by omega) (by omega) (by simp [leB_length])]
    simp only [Option.bind_some]
    rw [slots_f]
    simp only [Option.bind_some]
    unfold encB
    by_cases h2 : slotsT (formS o) = 2
    · rw [if_pos h2, if_pos h2, put_int_f 4 k _ _ 4 rfl (by omega) (by omega) (by simp [leB_length])]
      simp only [Option.bind_some]
      rw [put_int64_f 4 k _ _ 4 rfl (by omega) (by omega) (by simp [leB_length])]
      simp only [Option.bind_some, List.append_assoc]
    · rw [if_neg h2, if_neg h2, List.append_nil]
  · rw [if_neg h, if_neg h]
theorem renc_f (k : Nat) (hk : 10 ≤ k) (o : Int) (r : Bool) (d s f i : Int) (f1 : -9223372036854775808 ≤ f) (f2 : f ≤ 9223372036854775807) (h : checkF o r d s f i = 0) :
    slotcoderef05_Encode.f k o r d s f i = some (encB o r d s f i) := by
  have g := good h
  have m := smalls g.is
  have hf := g.f16 f1 f2
  have hI := g.is
  have m1 := m.s0; have m2 := m.s1; have m3 := m.o0; have m4 := m.o1; have m5 := m.i0; have m6 := m.i1; have g1 := g.d0; have g2 := g.d1; have g3 := g.s0; have g4 := g.s1
  unfold slotcoderef05_Encode.f slotcoderef03_Code.f slotcoderef03_Fixed.f
  unfold Is at hI
  rw [if_pos hI]
  simp only [Option.bind_some]
  rw [show wrap64 (srcS o + s) = s + srcS o by unfold wrap64; omega, show wrap64 (16 * (s + srcS o)) = 16 * (s + srcS o) by unfold wrap64; omega, show wrap64 (16 * (s + srcS o) + d) = 16 * (s + srcS o) + d by unfold wrap64; omega, Int.emod_eq_of_lt (by omega) (by omega),
    show wrap64 (offS o + f) = f + offS o by unfold wrap64; omega]
  rw [put_ref_f 2 k _ _ 2 rfl (by omega) (by omega) (by simp) (by rw [u64w]; omega) (by rw [u64w]; omega)]
  simp only [Option.bind_some]
  rw [put_ref_f 4 k _ _ 4 rfl (by omega) (by omega) (by simp [leB_length]) (by rw [u64w]; omega) (by rw [u64w]; omega)]
  simp only [Option.bind_some]
  rw [rslots_f k (by omega)]
  simp only [Option.bind_some]
  rw [leB2 (IntKind.u64.wrap (f + offS o)) (f + offS o) (by rw [u64w]; omega), leB4 (IntKind.u64.wrap (IntKind.u64.wrap (immS o) + IntKind.u64.wrap i)) (i + immS o) (by simp only [u64w]; omega)]
  unfold encB
  by_cases h2 : slotsT (formS o) = 2
  · rw [if_pos h2, if_pos h2, put_ref_f 4 k _ _ 4 rfl (by omega) (by omega) (by simp [leB_length]) (by omega) (by omega)]
    simp only [Option.bind_some]
    rw [put_ref_f 4 k _ _ 4 rfl (by omega) (by omega) (by simp [leB_length]) (by rw [u64w]; omega) (by rw [u64w]; omega)]
    simp only [Option.bind_some, List.append_assoc]
    rw [leB4 (IntKind.u64.wrap (Int.tdiv (IntKind.u64.wrap i) 4294967296)) (i / 4294967296) (by simp only [u64w]; rw [Int.tdiv_eq_ediv_of_nonneg (by omega)]; omega)]
  · rw [if_neg h2, if_neg h2, List.append_nil]
end Go.Proofs.YtnllfppkfdnjpabDoor.Q
