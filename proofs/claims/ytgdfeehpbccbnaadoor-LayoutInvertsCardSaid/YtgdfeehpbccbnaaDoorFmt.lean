/- The reference's Format: a number's decimal numeral. -/
import Derived.Test.YtgdfeehpbccbnaaDoorProg
import Derived.WalkKit
import Derived.KernelRfl
import Derived.Lib.Hide
import Derived.Outline
import Derived.WalkSpells
import Derived.WalkLawsBesides
namespace Go.Proofs.YtgdfeehpbccbnaaDoor.Ops
open Go Go.RowKit

def decTo : Nat → Nat → List UInt8 → List UInt8
  | 0, _, s => s
  | k + 1, r, s => if 0 < r ∨ s = [] then decTo k (r / 10) (UInt8.ofNat (48 + r % 10) :: s) else s
def fmtS (x : Int) : List UInt8 := if x < 0 then 45 :: decTo 25 x.natAbs [] else decTo 25 x.natAbs []
def digS : ByteArray := ⟨#[48, 49, 50, 51, 52, 53, 54, 55, 56, 57]⟩

theorem dig_all (w : World) : ∀ d : Nat, d < 10 → (Instr.slice 9 (.string digS) (some (.int .u64 (d : Int))) (some (.int .u64 ((d : Int) + 1))) none).run Tryd.prog w = .ok (.string ⟨[UInt8.ofNat (48 + d)].toArray⟩) w := by
  have h : ∀ d : Nat, d < 10 → (Instr.slice 9 (.string digS) (some (.int .u64 (Int.ofNat d))) (some (.int .u64 (Int.ofNat d + 1))) none).run Tryd.prog w = .ok (.string ⟨[UInt8.ofNat (48 + d)].toArray⟩) w := by
    have ha : (List.range 10).map (fun d => (Instr.slice 9 (.string digS) (some (.int .u64 (Int.ofNat d))) (some (.int .u64 (Int.ofNat d + 1))) none).run Tryd.prog w) = (List.range 10).map (fun d => .ok (.string ⟨[UInt8.ofNat (48 + d)].toArray⟩) w) := by kernel_rfl
    exact fun d hd => List.map_inj_left.1 ha d (List.mem_range.2 hd)
  exact h

theorem cons_bytes (a : UInt8) (s : List UInt8) : ((⟨#[a]⟩ : ByteArray) ++ ⟨s.toArray⟩) = ⟨(a :: s).toArray⟩ := by
  apply ByteArray.ext
  simp
theorem size_cons (a : UInt8) (s : List UInt8) : (ByteArray.mk (a :: s).toArray).size = s.length + 1 := by
  simp [ByteArray.size]
theorem dec_step {k r : Nat} {s : List UInt8} (h : 0 < r ∨ s = []) : decTo (k + 1) r s = decTo k (r / 10) (UInt8.ofNat (48 + r % 10) :: s) := by
  show (if _ then _ else _) = _
  rw [if_pos h]
theorem dec_end {k r : Nat} {s : List UInt8} (h : ¬ (0 < r ∨ s = [])) : decTo k r s = s := by
  cases k with
  | zero => rfl
  | succ k => show (if _ then _ else _) = _; rw [if_neg h]
theorem dec_cap : ∀ (k r : Nat) (s : List UInt8), decTo k r s ≠ [] ∨ k = 0 ∧ s = [] := by
  intro k
  induction k with
  | zero => intro r s; cases s <;> simp [decTo]
  | succ k ih =>
    intro r s
    left
    by_cases h : 0 < r ∨ s = []
    · rw [dec_step h]
      rcases ih (r / 10) (UInt8.ofNat (48 + r % 10) :: s) with h' | ⟨_, h'⟩
      · exact h'
      · cases h'
    · rw [dec_end h]
      exact fun e => h (.inr e)

set_option maxRecDepth 100000 in
set_option maxHeartbeats 1000000 in
theorem fmt_pos (x : Nat) (h1 : (x : Int) ≤ 9223372036854775807) (w : World) : Calls Tryd.prog 64 #[.int .i64 x] w fun e w' => e = .returned (.string ⟨(decTo 25 x []).toArray⟩) ∧ w = w' := by
  have h0 : (0 : Int) ≤ x := by omega
  have hF : ∃ F, decTo 25 x [] = F := ⟨_, rfl⟩
  obtain ⟨F, hF⟩ := hF
  rw [hF]
  have HF := Lib.hid hF
  clear hF
  go_enter Tryd.func64, Tryd.ntmps64
  go_wp2
  go_loop [4, 5] (fun a b => ∃ (k r : Nat) (s : List UInt8), a = .int .u64 (r : Int) ∧ b = .string ⟨s.toArray⟩ ∧ decTo k r s = F ∧ r < 10 ^ k ∧ (s = [] → 0 < k) ∧ r ≤ 9223372036854775807 ∧ s.length + k ≤ 25)
    (fun a b => 2 * (intOf a).toNat + (match b with | .string s => if s.size = 0 then 1 else 0 | _ => 0))
  case atStart => exact ⟨25, x, [], rfl, rfl, HF.out, by omega, fun _ => by omega, by omega, by simp⟩
  case round =>
    obtain ⟨k, r, s, rfl, rfl, hd, hlt, hk, hr, hs⟩ := hrel
    have hd10 : r % 10 < 10 := Nat.mod_lt _ (by decide)
    have hsl : ∀ w, (Instr.slice 9 (.string ⟨#[48, 49, 50, 51, 52, 53, 54, 55, 56, 57]⟩) (some (.int .u64 ((r : Int) % 10))) (some (.int .u64 ((r : Int) % 10 + 1))) none).run Tryd.prog w = .ok (.string ⟨[UInt8.ofNat (48 + r % 10)].toArray⟩) w := by
      intro w
      have := dig_all w (r % 10) hd10
      rwa [Int.natCast_emod] at this
    have b0 : (0 : Int) ≤ r := by omega
    have b1 : (0 : Int) ≤ (r : Int) % 10 := by omega
    have b2 : (r : Int) % 10 < 10 := by omega
    by_cases h : 0 < r ∨ s = []
    · obtain ⟨k, rfl⟩ : ∃ m, k = m + 1 := by
        refine ⟨k - 1, ?_⟩
        rcases h with h | h
        · cases k with
          | zero => simp at hlt; omega
          | succ k => omega
        · have := hk h; omega
      have hdn := dec_step (k := k) h
      rw [hd] at hdn
      have HD := Lib.hid hdn
      clear hdn hd
      have hlt' : r / 10 < 10 ^ k := by rw [Nat.pow_succ] at hlt; omega
      have hmeas : r = 0 → s = [] := fun e => h.resolve_left (by omega)
      by_cases hr0 : 0 < r
      · have hz : ((r : Int) > 0) := by omega
        go_wp2
        refine ⟨⟨k, r / 10, UInt8.ofNat (48 + r % 10) :: s, by rw [Int.natCast_ediv]; rfl, ?_, HD.out.symm, hlt', by simp, by omega, by simp; omega⟩, ?_⟩
        · rw [cons_bytes, UInt8.ofNat_add]
          rfl
        · rw [cons_bytes]
          simp [intOf, size_cons]
          split <;> omega
      · obtain rfl : r = 0 := by omega
        obtain rfl := hmeas rfl
        go_wp2
        refine ⟨⟨k, 0, [48], rfl, ?_, HD.out.symm, hlt', by simp, by omega, by simp at hs ⊢; omega⟩, ?_⟩
        · congr 1
        · simp [intOf]
          decide
    · have hr0 : r = 0 := by omega
      subst hr0
      have hne : s ≠ [] := fun e => h (.inr e)
      have hq : s.isEmpty = false := by cases s <;> simp_all
      rw [dec_end h] at hd
      subst hd
      go_wp2
      go_ret
      exact ⟨rfl, rfl⟩
set_option maxRecDepth 100000 in
set_option maxHeartbeats 1000000 in
theorem fmt_neg (x : Nat) (h0 : 0 < x) (h1 : (x : Int) ≤ 9223372036854775808) (w : World) : Calls Tryd.prog 64 #[.int .i64 (-(x : Int))] w fun e w' => e = .returned (.string ⟨(45 :: decTo 25 x []).toArray⟩) ∧ w = w' := by
  have hneg : -(x : Int) < 0 := by omega
  have HU : Hid (IntKind.u64.wrap (-IntKind.u64.wrap (-(x : Int))) = (x : Int)) := Lib.hid (by simp only [IntKind.wrap_u64]; omega)
  have hF : ∃ F, decTo 25 x [] = F := ⟨_, rfl⟩
  obtain ⟨F, hF⟩ := hF
  rw [hF]
  have HF := Lib.hid hF
  clear hF
  go_enter Tryd.func64, Tryd.ntmps64
  go_wp2
  go_loop [4, 5] (fun a b => ∃ (k r : Nat) (s : List UInt8), a = .int .u64 (r : Int) ∧ b = .string ⟨s.toArray⟩ ∧ decTo k r s = F ∧ r < 10 ^ k ∧ (s = [] → 0 < k) ∧ r ≤ 9223372036854775808 ∧ s.length + k ≤ 25)
    (fun a b => 2 * (intOf a).toNat + (match b with | .string s => if s.size = 0 then 1 else 0 | _ => 0))
  case atStart => exact ⟨25, x, [], by rw [HU.out], rfl, HF.out, by omega, fun _ => by omega, by omega, by simp⟩
  case round =>
    obtain ⟨k, r, s, rfl, rfl, hd, hlt, hk, hr, hs⟩ := hrel
    have hd10 : r % 10 < 10 := Nat.mod_lt _ (by decide)
    have hsl : ∀ w, (Instr.slice 9 (.string ⟨#[48, 49, 50, 51, 52, 53, 54, 55, 56, 57]⟩) (some (.int .u64 ((r : Int) % 10))) (some (.int .u64 ((r : Int) % 10 + 1))) none).run Tryd.prog w = .ok (.string ⟨[UInt8.ofNat (48 + r % 10)].toArray⟩) w := by
      intro w
      have := dig_all w (r % 10) hd10
      rwa [Int.natCast_emod] at this
    have b0 : (0 : Int) ≤ r := by omega
    have b1 : (0 : Int) ≤ (r : Int) % 10 := by omega
    have b2 : (r : Int) % 10 < 10 := by omega
    by_cases h : 0 < r ∨ s = []
    · obtain ⟨k, rfl⟩ : ∃ m, k = m + 1 := by
        refine ⟨k - 1, ?_⟩
        rcases h with h | h
        · cases k with
          | zero => simp at hlt; omega
          | succ k => omega
        · have := hk h; omega
      have hdn := dec_step (k := k) h
      rw [hd] at hdn
      have HD := Lib.hid hdn
      clear hdn hd
      have hlt' : r / 10 < 10 ^ k := by rw [Nat.pow_succ] at hlt; omega
      have hmeas : r = 0 → s = [] := fun e => h.resolve_left (by omega)
      by_cases hr0 : 0 < r
      · have hz : ((r : Int) > 0) := by omega
        go_wp2
        refine ⟨⟨k, r / 10, UInt8.ofNat (48 + r % 10) :: s, by rw [Int.natCast_ediv]; rfl, ?_, HD.out.symm, hlt', by simp, by omega, by simp; omega⟩, ?_⟩
        · rw [cons_bytes, UInt8.ofNat_add]
          rfl
        · rw [cons_bytes]
          simp [intOf, size_cons]
          split <;> omega
      · obtain rfl : r = 0 := by omega
        obtain rfl := hmeas rfl
        go_wp2
        refine ⟨⟨k, 0, [48], rfl, ?_, HD.out.symm, hlt', by simp, by omega, by simp at hs ⊢; omega⟩, ?_⟩
        · congr 1
        · simp [intOf]
          decide
    · have hr0 : r = 0 := by omega
      subst hr0
      have hne : s ≠ [] := fun e => h (.inr e)
      have hq : s.isEmpty = false := by cases s <;> simp_all
      rw [dec_end h] at hd
      subst hd
      go_wp2
      go_ret
      refine ⟨?_, rfl⟩
      show Ending.returned (.string ((⟨#[45]⟩ : ByteArray) ++ ⟨s.toArray⟩)) = _
      rw [cons_bytes]

theorem fmt_any (x : Int) (h0 : -9223372036854775808 ≤ x) (h1 : x ≤ 9223372036854775807) (w : World) : Calls Tryd.prog 64 #[.int .i64 x] w fun e w' => e = .returned (.string ⟨(fmtS x).toArray⟩) ∧ w = w' := by
  by_cases h : x < 0
  · obtain ⟨n, rfl⟩ : ∃ n : Nat, x = -(n : Int) := ⟨x.natAbs, by omega⟩
    have e : fmtS (-(n : Int)) = 45 :: decTo 25 n [] := by
      unfold fmtS
      rw [if_pos h, Int.natAbs_neg, Int.natAbs_natCast]
    rw [e]
    exact fmt_neg n (by omega) (by omega) w
  · obtain ⟨n, rfl⟩ : ∃ n : Nat, x = (n : Int) := ⟨x.natAbs, by omega⟩
    have e : fmtS (n : Int) = decTo 25 n [] := by
      unfold fmtS
      rw [if_neg h, Int.natAbs_natCast]
    rw [e]
    exact fmt_pos n h1 w
end Go.Proofs.YtgdfeehpbccbnaaDoor.Ops
