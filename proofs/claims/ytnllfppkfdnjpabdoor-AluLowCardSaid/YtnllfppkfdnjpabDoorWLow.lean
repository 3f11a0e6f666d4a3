/- The law AluLow: what the printed function says is always true; its walk. -/
import Derived.Test.YtnllfppkfdnjpabDoorWOperands
import Derived.Test.YtnllfppkfdnjpabDoorPAlu
import Derived.Test.YtnllfppkfdnjpabDoorJx3r
import Derived.OpenShut
namespace Go.Proofs.YtnllfppkfdnjpabDoor.Q
open Go Go.RowKit Go.Proofs.YtnllfppkfdnjpabDoor.Ops Go.Proofs.YtnllfppkfdnjpabDoorW.PrintWords

theorem alu_form : (List.range 86).map (fun n => formS (Int.ofNat n) == 0) = (List.range 86).map (fun n => decide (Int.ofNat n ≤ 27)) := by kernel_rfl
theorem alu_bits : (List.range 86).map (fun n => !(decide (Int.ofNat n ≤ 27)) || bitsS (Int.ofNat n) == (if Int.ofNat n ≤ 13 then 64 else 32)) = (List.range 86).map (fun _ => true) := by kernel_rfl
theorem form0_iff (o : Int) : formS o = 0 ↔ 0 ≤ o ∧ o ≤ 27 := by
  by_cases h : Is o
  · have e := in_rangeC (f := fun n => formS n == 0) (g := fun n => decide (n ≤ 27)) alu_form o h
    rw [Bool.eq_iff_iff] at e
    simp only [beq_iff_eq, decide_eq_true_eq] at e
    rw [e]
    exact ⟨fun k => ⟨h.1, k⟩, fun k => k.2⟩
  · rw [formS_outC h]
    unfold Is at h
    omega
theorem bits0 {o : Int} (h : formS o = 0) : bitsS o = if o ≤ 13 then 64 else 32 := by
  obtain ⟨h1, h2⟩ := (form0_iff o).1 h
  have e := in_rangeC (f := fun n => !(decide (n ≤ 27)) || bitsS n == (if n ≤ 13 then 64 else 32)) (g := fun _ => true) alu_bits o ⟨h1, by omega⟩
  simpa [h2] using e
theorem rbits_all : (List.range 86).map (fun n => slotcoderef03_Bits.f 200 (Int.ofNat n)) = (List.range 86).map (fun n => some (bitsS (Int.ofNat n))) := by kernel_rfl
theorem rbits0 {o : Int} (h : formS o = 0) : slotcoderef03_Bits.f 200 o = some (bitsS o) := by
  obtain ⟨h1, h2⟩ := (form0_iff o).1 h
  exact in_rangeC (f := fun n => slotcoderef03_Bits.f 200 n) (g := fun n => some (bitsS n)) rbits_all o ⟨h1, by omega⟩
def opB (r : Bool) (i src : Int) : Int := if r then src else IntKind.u64.wrap i
theorem operand0 {o : Int} (h : formS o = 0) (r : Bool) (d s f i B : Int) : alu_Operand.f o r d s f i B = some (opB r i B) := by
  unfold alu_Operand.f opB ops_Form.f
  cases r with
  | true => rfl
  | false => simp [h]
theorem do32 {o : Int} (h : formS o = 0) (hb : bitsS o = 32) (r : Bool) (d s f i A B : Int) : alu_Do.f o r d s f i A B = (c32 (wrap64 (o - 14)) (A % 4294967296) (opB r i B % 4294967296) 32).bind fun q => some (IntKind.u64.wrap q, true) := by
  unfold alu_Do.f ops_Bits.f
  rw [hb, operand0 h]
  unfold ops_Form.f alu_compute_uint32.f
  simp only [Option.bind_some, h, if_true]
  cases c32 (wrap64 (o - 14)) (A % 4294967296) (opB r i B % 4294967296) 32 <;> rfl
theorem ext_some (x : Int) : ∃ y, num_Extend.f x 32 = some y := by
  unfold num_Extend.f num_known.f
  rw [show knownB 32 = true from rfl]
  simp only [Option.bind_some, if_true]
  rw [if_pos (by unfold wrap64; omega)]
  exact ⟨_, rfl⟩
theorem bits_u32 (op : BinOp) (a b : Int) : 0 ≤ Go.bits op .u32 a b ∧ Go.bits op .u32 a b < 4294967296 := by
  have := bounds_u32 (wf_bits op .u32 a b)
  omega
theorem wrap_u32 (x : Int) : 0 ≤ IntKind.u32.wrap x ∧ IntKind.u32.wrap x < 4294967296 := by
  have := bounds_u32 (wf_wrap .u32 x)
  omega
theorem c32_some {i a b : Int} (hi : 0 ≤ i ∧ i ≤ 13) (ha : 0 ≤ a ∧ a < 4294967296) (hb : 0 ≤ b ∧ b < 4294967296) : ∃ q, c32 i a b 32 = some q ∧ 0 ≤ q ∧ q < 4294967296 := by
  obtain ⟨ea, hea⟩ := ext_some (IntKind.u64.wrap a)
  obtain ⟨eb, heb⟩ := ext_some (IntKind.u64.wrap b)
  have hs : alu_signed_uint32.f a b 32 = some ((divG ea eb).1 % 4294967296, (divG ea eb).2 % 4294967296) := by
    unfold alu_signed_uint32.f
    rw [hea, heb]
    simp only [Option.bind_some, divide_f]
  have hn := (bits_u32 .and b (wrap64 (32 - 1) % 4294967296)).1
  unfold c32
  obtain rfl | rfl | rfl | rfl | rfl | rfl | rfl | rfl | rfl | rfl | rfl | rfl | rfl | rfl : i = 0 ∨ i = 1 ∨ i = 2 ∨ i = 3 ∨ i = 4 ∨ i = 5 ∨ i = 6 ∨ i = 7 ∨ i = 8 ∨ i = 9 ∨ i = 10 ∨ i = 11 ∨ i = 12 ∨ i = 13 := by omega
  all_goals simp only [Int.reduceEq, if_false, if_true]
  · exact ⟨_, rfl, by omega, by omega⟩
  · exact ⟨_, rfl, by omega, by omega⟩
  · exact ⟨_, rfl, Int.emod_nonneg _ (by omega), Int.emod_lt_of_pos _ (by omega)⟩
  · unfold alu_quotient_uint32.f
    by_cases h0 : b = 0
    · rw [if_pos h0]; exact ⟨_, rfl, by omega, by omega⟩
    · rw [if_neg h0]; exact ⟨_, rfl, by omega, by omega⟩
  · exact ⟨_, rfl, bits_u32 _ _ _⟩
  · exact ⟨_, rfl, bits_u32 _ _ _⟩
  · unfold alu_binaries_uint32_6.f
    rw [if_pos hn]
    exact ⟨_, rfl, wrap_u32 _⟩
  · unfold alu_binaries_uint32_7.f
    rw [if_pos hn]
    refine ⟨_, rfl, Int.ediv_nonneg ha.1 (Int.le_of_lt (Int.pow_pos (by omega))), Int.lt_of_le_of_lt (Int.ediv_le_self _ ha.1) ha.2⟩
  · unfold alu_remainder_uint32.f
    by_cases h0 : b = 0
    · rw [if_pos h0]; exact ⟨_, rfl, ha⟩
    · rw [if_neg h0]; exact ⟨_, rfl, Int.tmod_nonneg b ha.1, Int.lt_of_le_of_lt (tmod_le' b ha.1) ha.2⟩
  · exact ⟨_, rfl, bits_u32 _ _ _⟩
  · exact ⟨_, rfl, hb⟩
  · unfold alu_binaries_uint32_10.f
    rw [hea]
    simp only [Option.bind_some, if_pos hn]
    exact ⟨_, rfl, Int.emod_nonneg _ (by omega), Int.emod_lt_of_pos _ (by omega)⟩
  · unfold alu_binaries_uint32_11.f
    rw [hs]
    exact ⟨_, rfl, Int.emod_nonneg _ (by omega), Int.emod_lt_of_pos _ (by omega)⟩
  · unfold alu_binaries_uint32_12.f
    rw [hs]
    exact ⟨_, rfl, Int.emod_nonneg _ (by omega), Int.emod_lt_of_pos _ (by omega)⟩
theorem low_same {A a : Int} (h : 0 ≤ A) : IntKind.u64.wrap (Int.tmod A 4294967296 + IntKind.u64.wrap (IntKind.u64.wrap a * 4294967296)) % 4294967296 = A % 4294967296 := by
  rw [u64C, u64C, u64C, Int.tmod_eq_emod_of_nonneg h]
  omega
theorem aluLow_true (o : Int) (r : Bool) (d s f i A B a b : Int) (hA : 0 ≤ A) (hB : 0 ≤ B) : slotcodelaw06_AluLow.f 200 o r d s f i A B a b = some true := by
  unfold slotcodelaw06_AluLow.f
  rw [form_fC 200 (by omega)]
  simp only [Option.bind_some]
  by_cases h : formS o = 0
  · rw [if_pos h, rbits0 h]
    simp only [Option.bind_some, slotcodelaw06_AluLow.j0, slotcodelaw06_alive.f, if_true]
    by_cases h32 : bitsS o = 32
    · have hx : (bitsS o != 32) = false := by simp [h32]
      have hr := (form0_iff o).1 h
      have hb0 := bits0 h
      have hi : 0 ≤ wrap64 (o - 14) ∧ wrap64 (o - 14) ≤ 13 := by
        rw [h32] at hb0
        split at hb0
        · omega
        · unfold wrap64; omega
      obtain ⟨q, hq, q0, q1⟩ := c32_some (a := A % 4294967296) (b := opB r i B % 4294967296) hi ⟨by omega, by omega⟩ ⟨by omega, by omega⟩
      have e : opB r i (IntKind.u64.wrap (Int.tmod B 4294967296 + IntKind.u64.wrap (IntKind.u64.wrap b * 4294967296))) % 4294967296 = opB r i B % 4294967296 := by
        unfold opB
        cases r with
        | true => exact low_same hB
        | false => rfl
      have hw : IntKind.u64.wrap q = q := by rw [u64C]; omega
      rw [hx, do32 h h32, do32 h h32, low_same hA, e, hq]
      simp [hw, q1]
    · have hx : (bitsS o != 32) = true := by simp [h32]
      rw [hx]
      rfl
  · rw [if_neg h]
    rfl
end Go.Proofs.YtnllfppkfdnjpabDoor.Q
namespace Go.Proofs.YtnllfppkfdnjpabDoor.L
open Go Go.RowKit Go.Proofs.YtnllfppkfdnjpabDoor.Ops Go.Proofs.YtnllfppkfdnjpabDoor.Q Go.Proofs.YtnllfppkfdnjpabDoorW.PrintWords

theorem aluLow_walk (w : World) (hG : GG w) (o : Int) (r : Bool) (d s f i A B : Int) (q : ((Lit.int .i64 o).wf = true ∧ True ∧ (Lit.int .i64 d).wf = true ∧ (Lit.int .i64 s).wf = true ∧ (Lit.int .i64 f).wf = true ∧ (Lit.int .i64 i).wf = true) ∧ (Lit.int .u64 A).wf = true ∧ (Lit.int .u64 B).wf = true)
    (a : Int) {Q1 : Prop} (_ : Q1) (b : Int) {Q2 : Prop} (_ : Q2) :
    Calls Tryd.prog 7 #[.agg #[.int .i64 o, .bool r, .int .i64 d, .int .i64 s, .int .i64 f, .int .i64 i, .int .u64 A, .int .u64 B], .int .u32 a, .int .u32 b] w fun e w' => e = .returned (.bool true) ∧ Below w.heap.size w w' :=
  slotcodelaw06_AluLow.calls 200 o r d s f i A B a b true w (aluLow_true o r d s f i A B a b (bounds_u64 q.2.1).1 (bounds_u64 q.2.2).1) hG
end Go.Proofs.YtnllfppkfdnjpabDoor.L
