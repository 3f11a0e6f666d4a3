/- The reference's Code gives the table's opcodes. -/
import Derived.Test.YtnllfppkfdnjpabDoorIdent
import Derived.Test.YtnllfppkfdnjpabDoorOwnR
import Derived.Lib.Hide
namespace Go.Proofs.YtnllfppkfdnjpabDoor.RC
open Go Go.RowKit Go.Proofs.YtnllfppkfdnjpabDoor.Own Go.Proofs.YtnllfppkfdnjpabDoor.Ops

theorem right_any (n : Int) (w : World) : Calls Tryd.prog 54 #[.int .i64 n] w fun e w' => e = .returned (.bool (decide (Is n))) ∧ Below w.heap.size w w' := by
  by_cases h0 : 0 ≤ n
  · by_cases h1 : n ≤ 85
    · have hd : Hid (decide (Is n) = true) := Lib.hid (decide_eq_true ⟨h0, by omega⟩)
      go_enter Tryd.func54, Tryd.ntmps54
      go_wp2
      go_ret
      exact ⟨by rw [hd.out]; rfl, Below.refl _ _⟩
    · have hd : Hid (decide (Is n) = false) := Lib.hid (decide_eq_false fun h => by have := h.2; omega)
      go_enter Tryd.func54, Tryd.ntmps54
      go_wp2
      go_ret
      exact ⟨by rw [hd.out]; rfl, Below.refl _ _⟩
  · have hd : Hid (decide (Is n) = false) := Lib.hid (decide_eq_false fun h => h0 h.1)
    go_enter Tryd.func54, Tryd.ntmps54
    go_wp2
    go_ret
    exact ⟨by rw [hd.out]; rfl, Below.refl _ _⟩

set_option maxRecDepth 100000 in
theorem rform_in : ∀ B, (List.range 86).map (fun i => lhs (run Tryd.prog noGlob noSpec 1000 5 B 25 #[.int .i64 (Int.ofNat i)])) =
    (List.range 86).map (fun i => rhs (.int .i64 (formS (Int.ofNat i))) (run Tryd.prog noGlob noSpec 1000 5 B 25 #[.int .i64 (Int.ofNat i)])) := fun B => by kernel_rfl
theorem rform_any (n : Nat) (h : n < 86) (w : World) : Calls Tryd.prog 25 #[.int .i64 n] w fun e w' => e = .returned (.int .i64 (formS n)) ∧ Below w.heap.size w w' :=
  calls_range (mk := fun i => #[.int .i64 (Int.ofNat i)]) (val := fun i => .int .i64 (formS (Int.ofNat i))) rform_in n h (noGlob_ok w) (noSpec_ok _ w)

/-! The opcodes: one block of 86 bytes. -/
def codesArr : Array Value := ((List.range 86).map (fun n => Value.int .u8 (codeS (Int.ofNat n)))).toArray
theorem codes_run (B : Nat) : (run Tryd.prog noGlob noSpec 1000 5 B 84 #[]).map (fun r => (r.1, r.2.mem, r.2.ob.map (·.1))) =
    (run Tryd.prog noGlob noSpec 1000 5 B 84 #[]).map (fun r => (.slice (some ⟨B + 0, 0, none⟩) 86 86, [some (.cells codesArr 5 (0, 0))], r.2.ob.map (·.2))) := by kernel_rfl
theorem codes_some (B : Nat) : (run Tryd.prog noGlob noSpec 1000 5 B 84 #[]).isSome = true := by kernel_rfl
theorem codes_any (w : World) : Calls Tryd.prog 84 #[] w fun e w' => e = .returned (.slice (some ⟨w.heap.size, 0, none⟩) 86 86) ∧ Below w.heap.size w w' ∧
    ∀ n : Nat, n < 86 → w'.cell? ⟨w.heap.size, n, none⟩ = some (.int .u8 (codeS n)) := by
  refine (calls_own (noGlob_ok w) (noSpec_ok _ w) (codes_run w.heap.size) (codes_some w.heap.size)).mono fun e w' ⟨h1, h2⟩ => ⟨h1, h2.below, fun n hn => ?_⟩
  have hc := h2.cell (i := 0) rfl n
  rw [Nat.add_zero] at hc
  rw [hc]
  simp [codesArr, hn]

set_option maxHeartbeats 1000000 in
theorem rcode_out (n : Int) (reg : Bool) (h : ¬ Is n) (w : World) : Calls Tryd.prog 65 #[.int .i64 n, .bool reg] w fun e w' =>
    e = .returned (.tuple #[.int .u8 0, .bool false]) ∧ Below w.heap.size w w' := by
  have hd : decide (Is n) = false := decide_eq_false h
  go_enter Tryd.func65, Tryd.ntmps65
  go_wp2_with fail
  refine (right_any _ _).mono ?_
  rintro e w1 ⟨rfl, hb1⟩
  rw [hd]
  go_wp2_with fail
  go_ret2
  exact ⟨rfl, hb1⟩

set_option maxHeartbeats 1000000 in
theorem rcode_imm (n : Nat) (h : n < 86) (w : World) : Calls Tryd.prog 65 #[.int .i64 n, .bool false] w fun e w' =>
    e = .returned (.tuple #[.int .u8 (codeS n), .bool true]) ∧ Below w.heap.size w w' := by
  have hd : decide (Is n) = true := decide_eq_true ⟨by omega, by omega⟩
  go_enter Tryd.func65, Tryd.ntmps65
  go_wp2_with fail
  refine (right_any _ _).mono ?_
  rintro e w1 ⟨rfl, hb1⟩
  rw [hd]
  go_wp2_with fail
  refine (codes_any _).mono ?_
  rintro e w2 ⟨rfl, hb2, hc⟩
  have hb := hb1.trans (hb2.mono hb1.size)
  have hcn := hc n h
  clear hc
  have hlt : (n : Int) < 86 := by omega
  have h0 : (0 : Int) ≤ n := by omega
  go_wp2_with fail
  go_ret2
  exact ⟨rfl, hb⟩

set_option maxHeartbeats 1000000 in
theorem rcode_reg (n : Nat) (h : n < 86) (b0 b4 : Bool) (h0 : (formS n == 0) = b0) (h4 : (formS n == 4) = b4) (w : World) : Calls Tryd.prog 65 #[.int .i64 n, .bool true] w fun e w' =>
    e = .returned (.tuple #[.int .u8 (if b0 || b4 then (codeS n + 8) % 256 else 0), .bool (b0 || b4)]) ∧ Below w.heap.size w w' := by
  have hd : decide (Is n) = true := decide_eq_true ⟨by omega, by omega⟩
  have hlt : (n : Int) < 86 := by omega
  have hn0 : (0 : Int) ≤ n := by omega
  have g0 : (formS n != 0) = !b0 := by rw [← h0]; rfl
  have g4 : (formS n != 4) = !b4 := by rw [← h4]; rfl
  cases b0 with
  | true =>
    clear g4 h4
    simp only [Bool.not_true] at g0
    go_enter Tryd.func65, Tryd.ntmps65
    go_wp2_with fail
    refine (right_any _ _).mono ?_
    rintro e w1 ⟨rfl, hb1⟩
    rw [hd]
    go_wp2_with fail
    refine (rform_any n h _).mono ?_
    rintro e w2 ⟨rfl, hb2⟩
    have hbb := hb1.trans (hb2.mono hb1.size)
    go_wp2_with fail
    refine (codes_any _).mono ?_
    rintro e w3 ⟨rfl, hb3, hc⟩
    have hb := hbb.trans (hb3.mono hbb.size)
    have hcn := hc n h
    clear hc
    go_wp2_with fail
    go_ret2
    exact ⟨rfl, hb⟩
  | false =>
    simp only [Bool.not_false] at g0
    cases b4 with
    | true =>
      simp only [Bool.not_true] at g4
      go_enter Tryd.func65, Tryd.ntmps65
      go_wp2_with fail
      refine (right_any _ _).mono ?_
      rintro e w1 ⟨rfl, hb1⟩
      rw [hd]
      go_wp2_with fail
      refine (rform_any n h _).mono ?_
      rintro e w2 ⟨rfl, hb2⟩
      have hbb := hb1.trans (hb2.mono hb1.size)
      go_wp2_with fail
      refine (rform_any n h _).mono ?_
      rintro e w2 ⟨rfl, hb2⟩
      have hbb := hbb.trans (hb2.mono hbb.size)
      go_wp2_with fail
      refine (codes_any _).mono ?_
      rintro e w3 ⟨rfl, hb3, hc⟩
      have hb := hbb.trans (hb3.mono hbb.size)
      have hcn := hc n h
      clear hc
      go_wp2_with fail
      go_ret2
      exact ⟨rfl, hb⟩
    | false =>
      simp only [Bool.not_false] at g4
      go_enter Tryd.func65, Tryd.ntmps65
      go_wp2_with fail
      refine (right_any _ _).mono ?_
      rintro e w1 ⟨rfl, hb1⟩
      rw [hd]
      go_wp2_with fail
      refine (rform_any n h _).mono ?_
      rintro e w2 ⟨rfl, hb2⟩
      have hbb := hb1.trans (hb2.mono hb1.size)
      go_wp2_with fail
      refine (rform_any n h _).mono ?_
      rintro e w2 ⟨rfl, hb2⟩
      have hbb := hbb.trans (hb2.mono hbb.size)
      go_wp2_with fail
      go_ret2
      exact ⟨rfl, hbb⟩

theorem rcode_any (n : Int) (reg : Bool) (w : World) : Calls Tryd.prog 65 #[.int .i64 n, .bool reg] w fun e w' =>
    e = .returned (.tuple #[.int .u8 (codeF n reg).1, .bool (codeF n reg).2]) ∧ Below w.heap.size w w' := by
  by_cases h : Is n
  · obtain ⟨m, rfl⟩ := Int.eq_ofNat_of_zero_le h.1
    have hm : m < 86 := by have := h.2; omega
    cases reg
    · simp only [codeF, if_pos h, Bool.false_eq_true, if_false]
      exact rcode_imm m hm w
    · refine (rcode_reg m hm _ _ rfl rfl w).mono ?_
      rintro e w' ⟨rfl, hb⟩
      refine ⟨?_, hb⟩
      simp only [codeF, if_pos h, if_true]
      cases (formS m == 0 || formS m == 4) <;> rfl
  · simp only [codeF, if_neg h]
    exact rcode_out n reg h w
end Go.Proofs.YtnllfppkfdnjpabDoor.RC
