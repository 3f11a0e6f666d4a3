/- ops.get: an operation's row by its number. -/
import Derived.Test.YtnllfppkfdnjpabDoorTab
import Derived.Test.YtnllfppkfdnjpabDoorOwn
namespace Go.Proofs.YtnllfppkfdnjpabDoor.Ops
open Go Go.RowKit Go.Proofs.YtnllfppkfdnjpabDoor.Ev

def row (n : Nat) : Row := rows.getD n ([], -1, 0, 0, 0, 0, 0)
def opName (n : Nat) : ByteArray := bytes (row n).1
def opForm (n : Nat) : Int := (row n).2.1
def opBits (n : Nat) : Int := (row n).2.2.1
def opCode (n : Nat) : Int := (row n).2.2.2.1
def opSrc (n : Nat) : Int := (row n).2.2.2.2.1
def opOff (n : Nat) : Int := (row n).2.2.2.2.2.1
def opImm (n : Nat) : Int := (row n).2.2.2.2.2.2

theorem of_range {α : Type} {f g : Nat → α} {m : Nat} (h : (List.range m).map f = (List.range m).map g) (n : Nat) (hn : n < m) : f n = g n :=
  List.map_inj_left.1 h n (List.mem_range.2 hn)

theorem ix_all : (List.range 86).map (fun n => semPure Tryd.prog (Instr.index 120 tableV (.int .i64 (Int.ofNat n)))) =
    (List.range 86).map (fun n => some (.agg #[.string (opName n), .int .i64 (opForm n), .int .i64 (opBits n), .int .u8 (opCode n), .int .i64 (opSrc n), .int .i64 (opOff n), .int .i64 (opImm n)])) := by kernel_rfl

theorem ix (n : Nat) (hn : n < 86) (w : World) : (Instr.index 120 tableV (.int .i64 (n : Int))).run Tryd.prog w =
    .ok (.agg #[.string (opName n), .int .i64 (opForm n), .int .i64 (opBits n), .int .u8 (opCode n), .int .i64 (opSrc n), .int .i64 (opOff n), .int .i64 (opImm n)]) w :=
  semPure_run _ _ (of_range ix_all n hn) w

def opV (n : Nat) : Value := .agg #[.string (opName n), .int .i64 (opForm n), .int .i64 (opBits n), .int .u8 (opCode n), .int .i64 (opSrc n), .int .i64 (opOff n), .int .i64 (opImm n)]

set_option maxHeartbeats 400000 in
theorem get_walk (n : Nat) (hn : n < 86) (w : World) : Calls Tryd.prog 74 #[.int .i64 n] w fun e w' => e = .returned (opV n) ∧
    ((w.alloc (.cells #[.string (opName n), .int .i64 (opForm n), .int .i64 (opBits n), .int .u8 (opCode n), .int .i64 (opSrc n), .int .i64 (opOff n), .int .i64 (opImm n)] 95)).alloc (.cells tableCells 120)) = w' := by
  have h0 : ¬ (n : Int) < 0 := by omega
  have h1 : ¬ (n : Int) ≥ 86 := by omega
  have hix := ix n hn
  go_enter Tryd.func74, Tryd.ntmps74
  go_wp2_with (go_at_call 85; refine (table_any _).mono ?_; rintro e w' ⟨rfl, rfl⟩)
  exact bodyPost_ret (v := opV n) (by simp [results, Tryd.results74, opV, go_sem]) rfl ⟨rfl, rfl⟩

/-- What the package-level variable of ops holds. -/
structure G (w : World) : Prop where
  c0 : w.cell? ⟨0, 0, none⟩ = some (.string ⟨#[]⟩)
  c1 : w.cell? ⟨0, 1, none⟩ = some (.int .i64 (-1))
  c2 : w.cell? ⟨0, 2, none⟩ = some (.int .i64 0)
  c3 : w.cell? ⟨0, 3, none⟩ = some (.int .u8 0)
  c4 : w.cell? ⟨0, 4, none⟩ = some (.int .i64 0)
  c5 : w.cell? ⟨0, 5, none⟩ = some (.int .i64 0)
  c6 : w.cell? ⟨0, 6, none⟩ = some (.int .i64 0)

theorem G.lt {w : World} (h : G w) : 0 < w.heap.size := block_lt_of_cell h.c0
theorem G.below {w w' : World} {n : Nat} (h : G w) (hn : 0 < n) (hb : Below n w w') : G w' :=
  ⟨(hb.cell (p := ⟨0, 0, none⟩) hn).trans h.c0, (hb.cell (p := ⟨0, 1, none⟩) hn).trans h.c1, (hb.cell (p := ⟨0, 2, none⟩) hn).trans h.c2, (hb.cell (p := ⟨0, 3, none⟩) hn).trans h.c3,
    (hb.cell (p := ⟨0, 4, none⟩) hn).trans h.c4, (hb.cell (p := ⟨0, 5, none⟩) hn).trans h.c5, (hb.cell (p := ⟨0, 6, none⟩) hn).trans h.c6⟩

set_option maxHeartbeats 400000 in
theorem get_under (n : Int) (hn : n < 0) (w : World) (hG : G w) : Calls Tryd.prog 74 #[.int .i64 n] w fun e w' =>
    e = .returned (.agg #[.string ⟨#[]⟩, .int .i64 (-1), .int .i64 0, .int .u8 0, .int .i64 0, .int .i64 0, .int .i64 0]) ∧ Below w.heap.size w w' := by
  have hlt := hG.lt
  obtain ⟨c0, c1, c2, c3, c4, c5, c6⟩ := hG
  go_enter Tryd.func74, Tryd.ntmps74
  go_wp2
  exact bodyPost_ret (v := .agg #[.string ⟨#[]⟩, .int .i64 (-1), .int .i64 0, .int .u8 0, .int .i64 0, .int .i64 0, .int .i64 0]) (by simp [results, Tryd.results74, go_sem]) rfl ⟨rfl, (Below.refl _ _).alloc (Nat.le_refl _) _⟩

set_option maxHeartbeats 400000 in
theorem get_over (n : Int) (hn : 86 ≤ n) (w : World) (hG : G w) : Calls Tryd.prog 74 #[.int .i64 n] w fun e w' =>
    e = .returned (.agg #[.string ⟨#[]⟩, .int .i64 (-1), .int .i64 0, .int .u8 0, .int .i64 0, .int .i64 0, .int .i64 0]) ∧ Below w.heap.size w w' := by
  have hlt := hG.lt
  obtain ⟨c0, c1, c2, c3, c4, c5, c6⟩ := hG
  have h0 : ¬ n < 0 := by omega
  go_enter Tryd.func74, Tryd.ntmps74
  go_wp2
  exact bodyPost_ret (v := .agg #[.string ⟨#[]⟩, .int .i64 (-1), .int .i64 0, .int .u8 0, .int .i64 0, .int .i64 0, .int .i64 0]) (by simp [results, Tryd.results74, go_sem]) rfl ⟨rfl, (Below.refl _ _).alloc (Nat.le_refl _) _⟩

/-- An operation's number. -/
def Is (n : Int) : Prop := 0 ≤ n ∧ n < 86
instance (n : Int) : Decidable (Is n) := inferInstanceAs (Decidable (_ ∧ _))
def rowS (n : Int) : Row := if Is n then row n.toNat else ([], -1, 0, 0, 0, 0, 0)
def nameS (n : Int) : ByteArray := bytes (rowS n).1
def formS (n : Int) : Int := (rowS n).2.1
def bitsS (n : Int) : Int := (rowS n).2.2.1
def codeS (n : Int) : Int := (rowS n).2.2.2.1
def srcS (n : Int) : Int := (rowS n).2.2.2.2.1
def offS (n : Int) : Int := (rowS n).2.2.2.2.2.1
def immS (n : Int) : Int := (rowS n).2.2.2.2.2.2
def getV (n : Int) : Value := .agg #[.string (nameS n), .int .i64 (formS n), .int .i64 (bitsS n), .int .u8 (codeS n), .int .i64 (srcS n), .int .i64 (offS n), .int .i64 (immS n)]

theorem get_any (n : Int) (w : World) (hG : G w) : Calls Tryd.prog 74 #[.int .i64 n] w fun e w' => e = .returned (getV n) ∧ Below w.heap.size w w' := by
  by_cases h : Is n
  · obtain ⟨m, rfl⟩ := Int.eq_ofNat_of_zero_le h.1
    have hm : m < 86 := by have := h.2; omega
    refine (get_walk m hm w).mono ?_
    rintro e w' ⟨rfl, rfl⟩
    refine ⟨?_, ((Below.refl _ _).alloc (Nat.le_refl _) _).alloc (by simp) _⟩
    simp only [getV, opV, nameS, formS, bitsS, codeS, srcS, offS, immS, rowS, if_pos h, opName, opForm, opBits, opCode, opSrc, opOff, opImm, Int.toNat_natCast]
  · have hv : (.agg #[.string ⟨#[]⟩, .int .i64 (-1), .int .i64 0, .int .u8 0, .int .i64 0, .int .i64 0, .int .i64 0] : Value) = getV n := by
      simp only [getV, nameS, formS, bitsS, codeS, srcS, offS, immS, rowS, if_neg h]
      rfl
    by_cases h0 : n < 0
    · refine (get_under n h0 w hG).mono ?_
      rintro e w' ⟨rfl, hb⟩
      exact ⟨by rw [hv], hb⟩
    · refine (get_over n (by unfold Is at h; omega) w hG).mono ?_
      rintro e w' ⟨rfl, hb⟩
      exact ⟨by rw [hv], hb⟩
end Go.Proofs.YtnllfppkfdnjpabDoor.Ops
