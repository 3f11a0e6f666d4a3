/- Chapter 5 in numbers, second part: the instruction that bytes begin with; it and the bytes determine each other. -/
import Derived.Test.YtnllfppkfdnjpabDoorPSl1
import Derived.Test.YtnllfppkfdnjpabDoorKx6
namespace Go.Proofs.YtnllfppkfdnjpabDoor.Q
open Go Go.RowKit Go.Proofs.YtnllfppkfdnjpabDoor.Ops Go.Proofs.YtnllfppkfdnjpabDoorW.PrintWords

theorem row_nat {n : Nat} (hn : n < 86) : formS n = opForm n ∧ srcS n = opSrc n ∧ offS n = opOff n ∧ immS n = opImm n := by
  have hi : Is (n : Int) := ⟨by omega, by omega⟩
  simp [formS, srcS, offS, immS, opForm, opSrc, opOff, opImm, rowS, hi]
/-! Identify and Code -/
/-- Which fields tell an operation apart. -/
def clsN (n : Nat) : Nat := if opForm n == 0 || opForm n == 2 then 1 else if opImm n != 0 then 2 else if opForm n == 10 || opForm n == 11 then 3 else 0
theorem match_cls (n : Nat) (a b c : Int) : matchR (opForm n) (opSrc n) (opOff n) (opImm n) a b c = (match clsN n with | 1 => opOff n == b | 2 => opImm n == c | 3 => opSrc n == a | _ => true) := by
  unfold matchR clsN
  split
  · rfl
  · split
    · rfl
    · split <;> rfl
/-- Operations with one opcode are told apart by the same fields. -/
theorem code_cls : (List.range 86).map (fun k => (List.range 86).all fun n => ((codeF (Int.ofNat n) false).1 != (codeF (Int.ofNat k) false).1 || clsN n == clsN k)
      && (!(codeF (Int.ofNat k) true).2 || ((codeF (Int.ofNat n) false).1 != (codeF (Int.ofNat k) true).1 || clsN n == clsN k))
      && (!(codeF (Int.ofNat n) true).2 || ((codeF (Int.ofNat n) true).1 != (codeF (Int.ofNat k) false).1 || clsN n == clsN k))
      && (!(codeF (Int.ofNat n) true).2 || !(codeF (Int.ofNat k) true).2 || ((codeF (Int.ofNat n) true).1 != (codeF (Int.ofNat k) true).1 || clsN n == clsN k))) = (List.range 86).map (fun _ => true) := by kernel_rfl
theorem inv_all : (List.range 86).map (fun n => (!(codeF (Int.ofNat n) false).2 || decide (identF (codeF (Int.ofNat n) false).1 (srcS (Int.ofNat n)) (offS (Int.ofNat n)) (immS (Int.ofNat n)) = (Int.ofNat n, false, true)))
    && (!(codeF (Int.ofNat n) true).2 || decide (identF (codeF (Int.ofNat n) true).1 (srcS (Int.ofNat n)) (offS (Int.ofNat n)) (immS (Int.ofNat n)) = (Int.ofNat n, true, true)))) = (List.range 86).map (fun _ => true) := by kernel_rfl
theorem inv_at (k : Nat) (hk : k < 86) (reg : Bool) (h : (codeF k reg).2 = true) : identF (codeF k reg).1 (srcS k) (offS k) (immS k) = ((k : Int), reg, true) := by
  have a := of_range inv_all k hk
  rw [Bool.and_eq_true] at a
  cases reg
  · have a := a.1
    rw [Bool.or_eq_true] at a
    rcases a with a | a
    · rw [show Int.ofNat k = (k : Int) from rfl, h] at a
      cases a
    · exact of_decide_eq_true a
  · have a := a.2
    rw [Bool.or_eq_true] at a
    rcases a with a | a
    · rw [show Int.ofNat k = (k : Int) from rfl, h] at a
      cases a
    · exact of_decide_eq_true a
theorem cls_at (k n : Nat) (hk : k < 86) (hn : n < 86) (reg r2 : Bool) (h : (codeF k reg).2 = true) (h2 : (codeF n r2).2 = true) (e : (codeF n r2).1 = (codeF k reg).1) : clsN n = clsN k := by
  have a := List.all_eq_true.1 (of_range code_cls k hk) n (List.mem_range.2 hn)
  simp only [show ∀ m : Nat, Int.ofNat m = (m : Int) from fun _ => rfl, Bool.and_eq_true, Bool.or_eq_true, bne_iff_ne, ne_eq, beq_iff_eq, Bool.not_eq_true'] at a
  obtain ⟨⟨⟨a1, a2⟩, a3⟩, a4⟩ := a
  cases reg <;> cases r2
  · exact a1.resolve_left (fun k => k e)
  · exact (a3.resolve_left (by rw [h2]; simp)).resolve_left (fun k => k e)
  · exact (a2.resolve_left (by rw [h]; simp)).resolve_left (fun k => k e)
  · exact (a4.resolve_left (by rw [h, h2]; simp)).resolve_left (fun k => k e)
/-- Where the opcode is that of an operation, other fields change nothing as long as those of its class stay. -/
theorem step_same (k n : Nat) (hk : k < 86) (hn : n < 86) (reg : Bool) (h : (codeF k reg).2 = true) (a b c : Int) (hm : matchR (opForm k) (opSrc k) (opOff k) (opImm k) a b c = true) :
    stepF n (codeF k reg).1 a b c = stepF n (codeF k reg).1 (srcS k) (offS k) (immS k) := by
  obtain ⟨r1, r2, r3, r4⟩ := row_nat hk
  have key : ∀ q, (codeF n q).2 = true → (codeF n q).1 = (codeF k reg).1 → matchR (opForm n) (opSrc n) (opOff n) (opImm n) a b c = matchR (opForm n) (opSrc n) (opOff n) (opImm n) (srcS k) (offS k) (immS k) := by
    intro q h2 e
    have hc := cls_at k n hk hn reg q h h2 e
    rw [match_cls] at hm
    rw [match_cls, match_cls, hc, r2, r3, r4]
    split at hm
    · rw [beq_iff_eq] at hm; subst hm; rfl
    · rw [beq_iff_eq] at hm; subst hm; rfl
    · rw [beq_iff_eq] at hm; subst hm; rfl
    · rfl
  unfold stepF
  cases e1 : (codeF n false).2 && (codeF n false).1 == (codeF k reg).1 with
  | true =>
    rw [Bool.and_eq_true, beq_iff_eq] at e1
    rw [key false e1.1 e1.2]
  | false =>
    cases e2 : (codeF n true).2 && (codeF n true).1 == (codeF k reg).1 with
    | true =>
      rw [Bool.and_eq_true, beq_iff_eq] at e2
      rw [key true e2.1 e2.2]
    | false => simp
theorem ident_same (k : Nat) (hk : k < 86) (reg : Bool) (h : (codeF k reg).2 = true) (a b c : Int) (hm : matchR (opForm k) (opSrc k) (opOff k) (opImm k) a b c = true) : identF (codeF k reg).1 a b c = ((k : Int), reg, true) := by
  rw [← inv_at k hk reg h]
  have : ∀ n, n ≤ 86 → identTo n (codeF k reg).1 a b c = identTo n (codeF k reg).1 (srcS k) (offS k) (immS k) := by
    intro n
    induction n with
    | zero => intro _; rfl
    | succ n ih =>
      intro hn
      rw [identTo, identTo, ih (by omega), step_same k n hk (by omega) reg h a b c hm]
  unfold identF
  rw [this 86 (by omega)]
theorem identTo_inv {code a b c : Int} {n : Int} {r : Bool} {q : Bool} : ∀ m, m ≤ 86 → identTo m code a b c = some (n, r, q) → q = true ∧ ∃ k : Nat, k < 86 ∧ n = k ∧ (codeF k r).2 = true ∧ (codeF k r).1 = code ∧ matchR (opForm k) (opSrc k) (opOff k) (opImm k) a b c = true
  | 0, _, h => by cases h
  | m + 1, hm, h => by
    rw [identTo, Option.or_eq_some_iff] at h
    rcases h with h | ⟨_, h⟩
    · exact identTo_inv m (by omega) h
    · unfold stepF at h
      split at h
      · rename_i hmt
        split at h
        · rename_i e
          rw [Bool.and_eq_true, beq_iff_eq] at e
          obtain ⟨rfl, rfl, rfl⟩ : (m : Int) = n ∧ false = r ∧ true = q := by simpa using h
          exact ⟨rfl, m, by omega, rfl, e.1, e.2, hmt⟩
        · split at h
          · rename_i e
            rw [Bool.and_eq_true, beq_iff_eq] at e
            obtain ⟨rfl, rfl, rfl⟩ : (m : Int) = n ∧ true = r ∧ true = q := by simpa using h
            exact ⟨rfl, m, by omega, rfl, e.1, e.2, hmt⟩
          · cases h
      · cases h
theorem ident_inv {code a b c : Int} (h : (identF code a b c).2.2 = true) : ∃ k : Nat, k < 86 ∧ (identF code a b c).1 = k ∧ (codeF k (identF code a b c).2.1).2 = true ∧ (codeF k (identF code a b c).2.1).1 = code := by
  unfold identF at h ⊢
  cases e : identTo 86 code a b c with
  | none => rw [e] at h; cases h
  | some q =>
    obtain ⟨n, r, t⟩ := q
    obtain ⟨_, k, hk, hn, h1, h2, _⟩ := identTo_inv 86 (by omega) e
    exact ⟨k, hk, hn, h1, h2⟩

/-! The instruction of bytes -/
def g2 (l : List Int) (j : Int) : Int := rd l j + 256 * rd l (j + 1)
def g4 (l : List Int) (j : Int) : Int := rd l j + 256 * rd l (j + 1) + 65536 * rd l (j + 2) + 16777216 * rd l (j + 3)
def sx16 (x : Int) : Int := if x ≥ 32768 then x - 65536 else x
def sx32 (x : Int) : Int := if x ≥ 2147483648 then x - 4294967296 else x
/-- What is left, once the operation is known. -/
def decQ (l : List Int) (q : Int × Bool × Bool) : Int × Bool × Int × Int × Int × Int × Int × Int :=
  if q.2.2 = false then (0, false, 0, 0, 0, 0, 0, 6) else
  if (l.length : Int) < 8 * slotsT (formS q.1) then (0, false, 0, 0, 0, 0, 0, 17) else
  if rd l 1 % 16 > 10 ∨ rd l 1 / 16 > 10 then (0, false, 0, 0, 0, 0, 0, 5) else
  if slotsT (formS q.1) = 2 then
    if g4 l 8 = 0 then
      if checkF q.1 q.2.1 (rd l 1 % 16) (rd l 1 / 16 - srcS q.1) (sx16 (g2 l 2) - offS q.1) (wrap64 (g4 l 12 * 4294967296 + g4 l 4)) = 0 then
        (q.1, q.2.1, rd l 1 % 16, rd l 1 / 16 - srcS q.1, sx16 (g2 l 2) - offS q.1, wrap64 (g4 l 12 * 4294967296 + g4 l 4), 2, 0)
      else (0, false, 0, 0, 0, 0, 0, 12)
    else (0, false, 0, 0, 0, 0, 0, 12)
  else
    if checkF q.1 q.2.1 (rd l 1 % 16) (rd l 1 / 16 - srcS q.1) (sx16 (g2 l 2) - offS q.1) (sx32 (g4 l 4) - immS q.1) = 0 then
      (q.1, q.2.1, rd l 1 % 16, rd l 1 / 16 - srcS q.1, sx16 (g2 l 2) - offS q.1, sx32 (g4 l 4) - immS q.1, slotsT (formS q.1), 0)
    else (0, false, 0, 0, 0, 0, 0, 12)
def decB (l : List Int) : Int × Bool × Int × Int × Int × Int × Int × Int :=
  if (l.length : Int) < 8 then (0, false, 0, 0, 0, 0, 0, 17) else decQ l (identF (rd l 0) (rd l 1 / 16) (sx16 (g2 l 2)) (sx32 (g4 l 4)))
/-- The elements are bytes. -/
def Bytes (l : List Int) : Prop := ∀ x ∈ l, 0 ≤ x ∧ x ≤ 255
theorem rd_byte {l : List Int} (h : Bytes l) (j : Int) : 0 ≤ rd l j ∧ rd l j ≤ 255 := by
  unfold rd
  by_cases hj : j.toNat < l.length
  · rw [List.getD_eq_getElem?_getD, List.getElem?_eq_getElem hj]
    exact h _ (List.getElem_mem hj)
  · rw [List.getD_eq_getElem?_getD, List.getElem?_eq_none (by omega)]
    exact ⟨by decide, by decide⟩
theorem slots_12 {k : Nat} (hk : k < 86) : slotsT (formS k) = 1 ∨ slotsT (formS k) = 2 := by
  have a : (List.range 86).map (fun n => slotsT (formS (Int.ofNat n)) == 1 || slotsT (formS (Int.ofNat n)) == 2) = (List.range 86).map (fun _ => true) := by kernel_rfl
  have := of_range a k hk
  simpa using this
end Go.Proofs.YtnllfppkfdnjpabDoor.Q
