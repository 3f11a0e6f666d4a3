/- ops.Identify: the first operation that has this opcode and these fields. -/
import Derived.Test.YtnllfppkfdnjpabDoorOps
import Derived.Lib.Hide
import Derived.Outline
namespace Go.Proofs.YtnllfppkfdnjpabDoor.Ops
open Go Go.RowKit

def matchR (form src off imm a b c : Int) : Bool :=
  if form == 0 || form == 2 then off == b else if imm != 0 then imm == c else if form == 10 || form == 11 then src == a else true

set_option maxHeartbeats 800000 in
theorem matches_any (nm : ByteArray) (form bits code src off imm a b c : Int) (w : World) :
    Calls Tryd.prog 86 #[.agg #[.string nm, .int .i64 form, .int .i64 bits, .int .u8 code, .int .i64 src, .int .i64 off, .int .i64 imm], .int .i64 a, .int .i64 b, .int .i64 c] w fun e w' =>
      e = .returned (.bool (matchR form src off imm a b c)) ∧ Below w.heap.size w w' := by
  cases h0 : form == 0 with
  | true =>
    have HM : Hid (matchR form src off imm a b c = (off == b)) := Lib.hid (by simp [matchR, *])
    go_enter Tryd.func86, Tryd.ntmps86
    go_wp2
    go_ret
    exact ⟨by rw [HM.out]; rfl, (Below.refl _ _).alloc (Nat.le_refl _) _⟩
  | false =>
    cases h2 : form == 2 with
    | true =>
      have HM : Hid (matchR form src off imm a b c = (off == b)) := Lib.hid (by simp [matchR, *])
      go_enter Tryd.func86, Tryd.ntmps86
      go_wp2
      go_ret
      exact ⟨by rw [HM.out]; rfl, (Below.refl _ _).alloc (Nat.le_refl _) _⟩
    | false =>
      cases hi : imm != 0 with
      | true =>
        have HM : Hid (matchR form src off imm a b c = (imm == c)) := Lib.hid (by simp [matchR, *])
        go_enter Tryd.func86, Tryd.ntmps86
        go_wp2
        go_ret
        exact ⟨by rw [HM.out]; rfl, (Below.refl _ _).alloc (Nat.le_refl _) _⟩
      | false =>
        cases h10 : form == 10 with
        | true =>
          have HM : Hid (matchR form src off imm a b c = (src == a)) := Lib.hid (by simp [matchR, *])
          go_enter Tryd.func86, Tryd.ntmps86
          go_wp2
          go_ret
          exact ⟨by rw [HM.out]; rfl, (Below.refl _ _).alloc (Nat.le_refl _) _⟩
        | false =>
          cases h11 : form == 11 with
          | true =>
            have HM : Hid (matchR form src off imm a b c = (src == a)) := Lib.hid (by simp [matchR, *])
            go_enter Tryd.func86, Tryd.ntmps86
            go_wp2
            go_ret
            exact ⟨by rw [HM.out]; rfl, (Below.refl _ _).alloc (Nat.le_refl _) _⟩
          | false =>
            have HM : Hid (matchR form src off imm a b c = (true)) := Lib.hid (by simp [matchR, *])
            go_enter Tryd.func86, Tryd.ntmps86
            go_wp2
            go_ret
            exact ⟨by rw [HM.out]; rfl, (Below.refl _ _).alloc (Nat.le_refl _) _⟩

/-- What the round of operation k hands back, if it does. -/
def stepF (k : Nat) (code src off imm : Int) : Option (Int × Bool × Bool) :=
  if matchR (opForm k) (opSrc k) (opOff k) (opImm k) src off imm then
    (if (codeF k false).2 && (codeF k false).1 == code then some (k, false, true)
     else if (codeF k true).2 && (codeF k true).1 == code then some (k, true, true) else none)
  else none
def identTo : Nat → Int → Int → Int → Int → Option (Int × Bool × Bool)
  | 0, _, _, _, _ => none
  | k + 1, code, src, off, imm => (identTo k code src off imm).or (stepF k code src off imm)
def identF (code src off imm : Int) : Int × Bool × Bool := (identTo 86 code src off imm).getD (0, false, false)

theorem G.below' {w w' : World} (h : G w) (hb : Below w.heap.size w w') : G w' := h.below h.lt hb

theorem identTo_some {code src off imm : Int} {r : Int × Bool × Bool} {k : Nat} (h : identTo k code src off imm = some r) : ∀ m, k ≤ m → identTo m code src off imm = some r := by
  intro m hm
  induction m with
  | zero => obtain rfl : k = 0 := by omega
            exact h
  | succ m ih =>
    by_cases e : k = m + 1
    · subst e; exact h
    · show (identTo m code src off imm).or _ = _
      rw [ih (by omega)]
      rfl
theorem ident_of_step {code src off imm : Int} {r : Int × Bool × Bool} {k : Nat} (hk : k < 86) (h0 : identTo k code src off imm = none) (h : stepF k code src off imm = some r) : identF code src off imm = r := by
  unfold identF
  rw [identTo_some (k := k + 1) (by show (identTo k code src off imm).or _ = _; rw [h0, h]; rfl) 86 (by omega)]
  rfl

set_option maxRecDepth 100000 in
set_option maxHeartbeats 1000000 in
theorem ident_any (code src off imm : Int) (w : World) (hG : G w) :
    Calls Tryd.prog 70 #[.int .u8 code, .int .i64 src, .int .i64 off, .int .i64 imm] w fun e w' =>
      e = .returned (.tuple #[.int .i64 (identF code src off imm).1, .bool (identF code src off imm).2.1, .bool (identF code src off imm).2.2]) ∧ Below w.heap.size w w' := by
  go_enter Tryd.func70, Tryd.ntmps70
  go_wp2_with (go_at_call 85; refine (table_any _).mono ?_; rintro e w' ⟨rfl, rfl⟩)
  go_loopw [18] (fun i wr => ∃ k : Nat, k ≤ 86 ∧ i = .int .i64 k ∧ identTo k code src off imm = none ∧ Below w.heap.size w wr)
    (fun i _ => 86 - (intOf i).toNat)
  case atStart => exact ⟨0, Nat.zero_le _, rfl, rfl, (Below.refl _ _).alloc (Nat.le_refl _) _⟩
  case round =>
    obtain ⟨k, hk, rfl, hnone, hnx⟩ := hrel
    have HN := Lib.hid hnone
    clear hnone
    by_cases hlt : k < 86
    · have hix := ix k hlt
      have hsz := hnx.size
      have hGr := hG.below hG.lt hnx
      go_wp2_with fail
      refine (matches_any _ _ _ _ _ _ _ _ _ _ _).mono ?_
      rintro e w1 ⟨rfl, hb1⟩
      have hn1 : Below w.heap.size w w1 := (hnx.alloc hsz _).trans (hb1.mono (by simp; omega))
      clear hix
      have hG1 := hG.below' hn1
      cases hm : matchR (opForm k) (opSrc k) (opOff k) (opImm k) src off imm with
      | false =>
        have HS : Hid (identTo (k + 1) code src off imm = none) := Lib.hid (by show (identTo k code src off imm).or _ = _; rw [HN.out]; simp [stepF, hm])
        go_wp2_with fail
        go_roundw
        case rel => exact ⟨k + 1, by omega, by go_num, HS.out, hn1⟩
        case measure => simp [intOf]; omega
      | true =>
        have i0 : ∀ w, (Instr.index 123 (.agg #[.bool false, .bool true]) (.int .i64 0)).run Tryd.prog w = .ok (.bool false) w := fun _ => by kernel_rfl
        have i1 : ∀ w, (Instr.index 123 (.agg #[.bool false, .bool true]) (.int .i64 1)).run Tryd.prog w = .ok (.bool true) w := fun _ => by kernel_rfl
        go_wp2_with fail
        refine wp_loop_rounds 3 ?_
        rw [rounds_succ]
        go_wp2_with fail
        refine (code_any _ _ _ hG1).mono ?_
        rintro e w2 ⟨rfl, hb2⟩
        have hn2 := hn1.trans (hb2.mono hn1.size)
        have hG2 := hG.below' hn2
        cases ha : (codeF k false).2 && (codeF k false).1 == code with
        | true =>
          have HS : Hid (identF code src off imm = ((k : Int), false, true)) := Lib.hid (ident_of_step hlt HN.out (by simp only [stepF, hm, ha, if_true]))
          obtain ⟨a1, a2⟩ := Bool.and_eq_true_iff.1 ha
          clear ha
          go_wp2_with fail
          go_ret3
          exact ⟨by rw [HS.out]; rfl, hn2⟩
        | false =>
          have HA := Lib.hid ha
          clear ha
          cases hb : (codeF k true).2 && (codeF k true).1 == code with
          | true =>
            have HS : Hid (identF code src off imm = ((k : Int), true, true)) := Lib.hid (ident_of_step hlt HN.out (by simp only [stepF, hm, HA.out, hb, if_true, Bool.false_eq_true, if_false]))
            obtain ⟨b1, b2⟩ := Bool.and_eq_true_iff.1 hb
            clear hb
            cases a1 : (codeF k false).2
            all_goals (try cases a2 : ((codeF k false).1 == code))
            all_goals first
              | (exfalso; have h3 := HA.out; simp [a1, a2] at h3; done)
              | (go_wp2_with fail
                 rw [rounds_succ]
                 go_wp2_with fail
                 refine (code_any _ _ _ hG2).mono ?_
                 rintro e w3 ⟨rfl, hb3⟩
                 have hn3 := hn2.trans (hb3.mono hn2.size)
                 go_wp2_with fail
                 go_ret3
                 exact ⟨by rw [HS.out]; rfl, hn3⟩)
          | false =>
            have HB := Lib.hid hb
            clear hb
            have HS : Hid (identTo (k + 1) code src off imm = none) := Lib.hid (by show (identTo k code src off imm).or _ = _; rw [HN.out]; simp only [stepF, hm, HA.out, HB.out, if_true, Bool.false_eq_true, if_false, Option.or])
            cases a1 : (codeF k false).2
            all_goals (try cases a2 : ((codeF k false).1 == code))
            all_goals (try cases b1 : (codeF k true).2)
            all_goals (try cases b2 : ((codeF k true).1 == code))
            all_goals first
              | (exfalso; have h3 := HA.out; simp [a1, a2] at h3; done)
              | (exfalso; have h3 := HB.out; simp [b1, b2] at h3; done)
              | (go_wp2_with fail
                 rw [rounds_succ]
                 go_wp2_with fail
                 refine (code_any _ _ _ hG2).mono ?_
                 rintro e w3 ⟨rfl, hb3⟩
                 have hn3 := hn2.trans (hb3.mono hn2.size)
                 go_wp2_with fail
                 rw [rounds_succ]
                 go_wp2_with fail
                 go_roundw
                 case rel => exact ⟨k + 1, by omega, by go_num, HS.out, hn3⟩
                 case measure => simp [intOf]; omega)
    · have : k = 86 := by omega
      subst this
      go_wp2
      go_ret3
      exact ⟨by unfold identF; rw [HN.out]; rfl, hnx⟩
end Go.Proofs.YtnllfppkfdnjpabDoor.Ops
