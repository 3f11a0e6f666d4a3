/- The reference of layer 3 gives the same table as the program. -/
import Derived.Test.YtgdfeehpbccbnaaDoorIdent
import Derived.Test.YtgdfeehpbccbnaaDoorOwnR
import Derived.Test.YtgdfeehpbccbnaaDoorRx4
import Derived.Test.YtgdfeehpbccbnaaDoorRx5
import Derived.Test.YtgdfeehpbccbnaaDoorRx7
namespace Go.Proofs.YtgdfeehpbccbnaaDoor.Ops
open Go Go.RowKit Go.Proofs.YtgdfeehpbccbnaaDoor.Own Go.Proofs.YtgdfeehpbccbnaaDoor.R

theorem rname_all : (List.range 86).map (fun n => slotcoderef03_Name.f (Int.ofNat n)) = (List.range 86).map (fun n => some (nameS (Int.ofNat n))) := by kernel_rfl
theorem rform_all : (List.range 86).map (fun n => slotcoderef03_Form.f 5 (Int.ofNat n)) = (List.range 86).map (fun n => some (formS (Int.ofNat n))) := by kernel_rfl
theorem rbits_all : (List.range 86).map (fun n => slotcoderef03_Bits.f 5 (Int.ofNat n)) = (List.range 86).map (fun n => some (bitsS (Int.ofNat n))) := by kernel_rfl
theorem rfixed_all : (List.range 86).map (fun n => slotcoderef03_Fixed.f 5 (Int.ofNat n)) = (List.range 86).map (fun n => some (srcS (Int.ofNat n), offS (Int.ofNat n), immS (Int.ofNat n))) := by kernel_rfl

theorem right_f (n : Int) : slotcoderef03_Right.f n = some (decide (Is n)) := by
  unfold slotcoderef03_Right.f
  by_cases h0 : n ≥ 0
  · rw [if_pos h0]
    congr 1
    rw [decide_eq_decide]
    exact ⟨fun h => ⟨h0, by omega⟩, fun h => by have := h.2; omega⟩
  · rw [if_neg h0]
    congr 1
    rw [eq_comm, decide_eq_false_iff_not]
    exact fun h => h0 h.1
theorem right_any (n : Int) (w : World) : Calls Tryd.prog 48 #[.int .i64 n] w fun e w' => e = .returned (.bool (decide (Is n))) ∧ Below w.heap.size w w' := by
  refine (slotcoderef03_Right.calls n _ w (right_f n)).mono fun e w' h => ⟨h.1, ?_⟩
  obtain ⟨_, k, rfl⟩ := h
  exact below_drewN (Below.refl _ _) _
theorem in_range {α : Type} {f g : Int → α} (h : (List.range 86).map (fun n => f (Int.ofNat n)) = (List.range 86).map (fun n => g (Int.ofNat n))) (n : Int) (hn : Is n) : f n = g n := by
  obtain ⟨m, rfl⟩ := Int.eq_ofNat_of_zero_le hn.1
  exact of_range h m (by have := hn.2; omega)
theorem rowS_out {n : Int} (h : ¬ Is n) : rowS n = ([], -1, 0, 0, 0, 0, 0) := if_neg h

theorem rname_any (n : Int) (w : World) : Calls Tryd.prog 17 #[.int .i64 n] w fun e w' => e = .returned (.string (nameS n)) ∧ Below w.heap.size w w' := by
  refine slotcoderef03_Name.calls n (nameS n) w ?_
  by_cases h : Is n
  · exact in_range (f := fun n => slotcoderef03_Name.f n) (g := fun n => some (nameS n)) rname_all n h
  · unfold slotcoderef03_Name.f
    rw [right_f, decide_eq_false h]
    simp only [Option.bind_some, Bool.false_eq_true, if_false, nameS, rowS_out h]
    rfl
theorem rform_any (n : Int) (w : World) : Calls Tryd.prog 19 #[.int .i64 n] w fun e w' => e = .returned (.int .i64 (formS n)) ∧ Below w.heap.size w w' := by
  refine (slotcoderef03_Form.calls 5 n (formS n) w ?_).mono fun e w' h => ⟨h.1, ?_⟩
  · by_cases h : Is n
    · exact in_range (f := fun n => slotcoderef03_Form.f 5 n) (g := fun n => some (formS n)) rform_all n h
    · unfold slotcoderef03_Form.f
      rw [right_f, decide_eq_false h]
      simp only [Option.bind_some, Bool.false_eq_true, if_false, formS, rowS_out h]
  · obtain ⟨_, k, rfl⟩ := h
    exact below_drewN (Below.refl _ _) _
theorem rbits_any (n : Int) (w : World) : Calls Tryd.prog 21 #[.int .i64 n] w fun e w' => e = .returned (.int .i64 (bitsS n)) ∧ Below w.heap.size w w' := by
  refine slotcoderef03_Bits.calls 5 n (bitsS n) w ?_
  by_cases h : Is n
  · exact in_range (f := fun n => slotcoderef03_Bits.f 5 n) (g := fun n => some (bitsS n)) rbits_all n h
  · unfold slotcoderef03_Bits.f slotcoderef03_Bits.j0
    rw [right_f, decide_eq_false h]
    simp only [Option.bind_some, Bool.false_eq_true, if_false, if_true, bitsS, rowS_out h]
theorem rfixed_any (n : Int) (w : World) : Calls Tryd.prog 28 #[.int .i64 n] w fun e w' =>
    e = .returned (.tuple #[.int .i64 (srcS n), .int .i64 (offS n), .int .i64 (immS n)]) ∧ Below w.heap.size w w' := by
  refine slotcoderef03_Fixed.calls 5 n (srcS n) (offS n) (immS n) w ?_
  by_cases h : Is n
  · exact in_range (f := fun n => slotcoderef03_Fixed.f 5 n) (g := fun n => some (srcS n, offS n, immS n)) rfixed_all n h
  · simp only [srcS, offS, immS, rowS_out h]
    have hn : n < 0 ∨ 86 ≤ n := by unfold Is at h; omega
    unfold slotcoderef03_Fixed.f
    rw [if_neg (by omega), if_neg (by omega), if_neg (by omega)]
    have e27 : (n == 27) = false := beq_eq_false_iff_ne.2 (by omega)
    rw [e27]
    have e0 : slotcoderef03_Fixed.j2 3 n false = some (0, 0, 0) := by
      simp only [slotcoderef03_Fixed.j2, Bool.false_eq_true, if_false]
      rw [if_neg (by omega)]
    have e1 : slotcoderef03_Fixed.j1 4 n false = some (0, 0, 0) := by
      simp only [slotcoderef03_Fixed.j1, Bool.false_eq_true, if_false]
      rcases hn with hn | hn
      · rw [if_neg (by omega)]; exact e0
      · rw [if_pos (by omega), decide_eq_false (by omega)]; exact e0
    simp only [slotcoderef03_Fixed.j0, Bool.false_eq_true, if_false]
    rcases hn with hn | hn
    · rw [if_neg (by omega)]; exact e1
    · rw [if_pos (by omega), decide_eq_false (by omega)]; exact e1

/-! The opcodes: one block of 86 bytes. -/
def codesArr : Array Value := ((List.range 86).map (fun n => Value.int .u8 (codeS (Int.ofNat n)))).toArray
theorem codes_run (B : Nat) : (run Tryd.prog noGlob noSpec 1000 5 B 51 #[]).map (fun r => (r.1, r.2.mem, r.2.ob.map (·.1))) =
    (run Tryd.prog noGlob noSpec 1000 5 B 51 #[]).map (fun r => (.slice (some ⟨B + 0, 0, none⟩) 86 86, [some (.cells codesArr 5 (0, 0))], r.2.ob.map (·.2))) := by kernel_rfl
theorem codes_some (B : Nat) : (run Tryd.prog noGlob noSpec 1000 5 B 51 #[]).isSome = true := by kernel_rfl
theorem codes_any (w : World) : Calls Tryd.prog 51 #[] w fun e w' => e = .returned (.slice (some ⟨w.heap.size, 0, none⟩) 86 86) ∧ Below w.heap.size w w' ∧
    ∀ n : Nat, n < 86 → w'.cell? ⟨w.heap.size, n, none⟩ = some (.int .u8 (codeS n)) := by
  refine (calls_own (noGlob_ok w) (noSpec_ok _ w) (codes_run w.heap.size) (codes_some w.heap.size)).mono fun e w' ⟨h1, h2⟩ => ⟨h1, h2.below, fun n hn => ?_⟩
  have hc := h2.cell (i := 0) rfl n
  rw [Nat.add_zero] at hc
  rw [hc]
  simp [codesArr, hn]

set_option maxHeartbeats 1000000 in
theorem rcode_out (n : Int) (reg : Bool) (h : ¬ Is n) (w : World) : Calls Tryd.prog 24 #[.int .i64 n, .bool reg] w fun e w' =>
    e = .returned (.tuple #[.int .u8 0, .bool false]) ∧ Below w.heap.size w w' := by
  have hd : decide (Is n) = false := decide_eq_false h
  go_enter Tryd.func24, Tryd.ntmps24
  go_wp2_with fail
  refine (right_any _ _).mono ?_
  rintro e w1 ⟨rfl, hb1⟩
  rw [hd]
  go_wp2_with fail
  go_ret2
  exact ⟨rfl, hb1⟩

set_option maxHeartbeats 1000000 in
theorem rcode_imm (n : Nat) (h : n < 86) (w : World) : Calls Tryd.prog 24 #[.int .i64 n, .bool false] w fun e w' =>
    e = .returned (.tuple #[.int .u8 (codeS n), .bool true]) ∧ Below w.heap.size w w' := by
  have hd : decide (Is n) = true := decide_eq_true ⟨by omega, by omega⟩
  go_enter Tryd.func24, Tryd.ntmps24
  go_wp2_with fail
  refine (right_any _ _).mono ?_
  rintro e w1 ⟨rfl, hb1⟩
  rw [hd]
  go_wp2_with fail
  refine (codes_any _).mono ?_
  rintro e w2 ⟨rfl, hb2, hc⟩
  have hb := hb1.trans (hb2.mono hb1.size)
  have hcn := hc n h
  clear hc
  have hlt : (n : Int) < 86 := by omega
  have h0 : (0 : Int) ≤ n := by omega
  go_wp2_with fail
  go_ret2
  exact ⟨rfl, hb⟩

set_option maxHeartbeats 1000000 in
theorem rcode_reg (n : Nat) (h : n < 86) (b0 b4 : Bool) (h0 : (formS n == 0) = b0) (h4 : (formS n == 4) = b4) (w : World) : Calls Tryd.prog 24 #[.int .i64 n, .bool true] w fun e w' =>
    e = .returned (.tuple #[.int .u8 (if b0 || b4 then (codeS n + 8) % 256 else 0), .bool (b0 || b4)]) ∧ Below w.heap.size w w' := by
  have hd : decide (Is n) = true := decide_eq_true ⟨by omega, by omega⟩
  have hlt : (n : Int) < 86 := by omega
  have hn0 : (0 : Int) ≤ n := by omega
  have g0 : (formS n != 0) = !b0 := by rw [← h0]; rfl
  have g4 : (formS n != 4) = !b4 := by rw [← h4]; rfl
  cases b0 with
  | true =>
    clear g4 h4
    simp only [Bool.not_true] at g0
    go_enter Tryd.func24, Tryd.ntmps24
    go_wp2_with fail
    refine (right_any _ _).mono ?_
    rintro e w1 ⟨rfl, hb1⟩
    rw [hd]
    go_wp2_with fail
    refine (rform_any _ _).mono ?_
    rintro e w2 ⟨rfl, hb2⟩
    have hbb := hb1.trans (hb2.mono hb1.size)
    go_wp2_with fail
    refine (codes_any _).mono ?_
    rintro e w3 ⟨rfl, hb3, hc⟩
    have hb := hbb.trans (hb3.mono hbb.size)
    have hcn := hc n h
    clear hc
    go_wp2_with fail
    go_ret2
    exact ⟨rfl, hb⟩
  | false =>
    simp only [Bool.not_false] at g0
    cases b4 with
    | true =>
      simp only [Bool.not_true] at g4
      go_enter Tryd.func24, Tryd.ntmps24
      go_wp2_with fail
      refine (right_any _ _).mono ?_
      rintro e w1 ⟨rfl, hb1⟩
      rw [hd]
      go_wp2_with fail
      refine (rform_any _ _).mono ?_
      rintro e w2 ⟨rfl, hb2⟩
      have hbb := hb1.trans (hb2.mono hb1.size)
      go_wp2_with fail
      refine (rform_any _ _).mono ?_
      rintro e w2 ⟨rfl, hb2⟩
      have hbb := hbb.trans (hb2.mono hbb.size)
      go_wp2_with fail
      refine (codes_any _).mono ?_
      rintro e w3 ⟨rfl, hb3, hc⟩
      have hb := hbb.trans (hb3.mono hbb.size)
      have hcn := hc n h
      clear hc
      go_wp2_with fail
      go_ret2
      exact ⟨rfl, hb⟩
    | false =>
      simp only [Bool.not_false] at g4
      go_enter Tryd.func24, Tryd.ntmps24
      go_wp2_with fail
      refine (right_any _ _).mono ?_
      rintro e w1 ⟨rfl, hb1⟩
      rw [hd]
      go_wp2_with fail
      refine (rform_any _ _).mono ?_
      rintro e w2 ⟨rfl, hb2⟩
      have hbb := hb1.trans (hb2.mono hb1.size)
      go_wp2_with fail
      refine (rform_any _ _).mono ?_
      rintro e w2 ⟨rfl, hb2⟩
      have hbb := hbb.trans (hb2.mono hbb.size)
      go_wp2_with fail
      go_ret2
      exact ⟨rfl, hbb⟩

theorem rcode_any (n : Int) (reg : Bool) (w : World) : Calls Tryd.prog 24 #[.int .i64 n, .bool reg] w fun e w' =>
    e = .returned (.tuple #[.int .u8 (codeF n reg).1, .bool (codeF n reg).2]) ∧ Below w.heap.size w w' := by
  by_cases h : Is n
  · obtain ⟨m, rfl⟩ := Int.eq_ofNat_of_zero_le h.1
    have hm : m < 86 := by have := h.2; omega
    cases reg
    · simp only [codeF, if_pos h, Bool.false_eq_true, if_false]
      exact rcode_imm m hm w
    · refine (rcode_reg m hm _ _ rfl rfl w).mono ?_
      rintro e w' ⟨rfl, hb⟩
      refine ⟨?_, hb⟩
      simp only [codeF, if_pos h, if_true]
      cases (formS m == 0 || formS m == 4) <;> rfl
  · simp only [codeF, if_neg h]
    exact rcode_out n reg h w
end Go.Proofs.YtgdfeehpbccbnaaDoor.Ops
