/- slices.Clone of a slice of bytes. -/
import Derived.Test.YtnllfppkfdnjpabDoorKx0
import Derived.Lib.SliceRun
namespace Go.Proofs.YtnllfppkfdnjpabDoor.Q
open Go Go.RowKit Go.Proofs.YtnllfppkfdnjpabDoor.Ops Go.Proofs.YtnllfppkfdnjpabDoorW.PrintWords

set_option maxHeartbeats 1000000 in
set_option maxRecDepth 100000 in
theorem clone_any (A : Option Addr) (c : Nat) (l : List Int) (w : World) (hr : Kd.C (Kd.int .u8) w A l.length l) (hl : l.length ≤ 1000000000) :
    Calls Tryd.prog 34 #[.slice A l.length c] w fun e w' => ∃ v0_ : Value, e = .returned (v0_) ∧ Kd.R (Kd.int .u8) 5 w' w.heap.size (fun _ => True) v0_ l ∧ Below w.heap.size w w' := by
  have q : ∀ W : World, (binOp .eql 44 (.slice A l.length c) (.slice none 0 0)).run Tryd.prog W = .ok (.bool A.isNone) W := fun W => Lib.run_eql_slice_nil W _ _ A _ _ _ _ Tryd.underlying44
  have HR := Aside0.mk hr
  cases A with
  | none =>
    have h0 : l = [] := by
      have h2 := hr.2.2
      cases l with
      | nil => rfl
      | cons x xs =>
        obtain ⟨ad, e, _⟩ := h2 (by simp)
        cases e
    subst h0
    simp only [Option.isNone_none, List.length_nil] at q
    clear hr
    go_enter Tryd.func34, Tryd.ntmps34
    go_wp2_with fail
    go_ret
    exact ⟨_, rfl, Kd.R_nil _ _ _ _ _, Below.refl _ _⟩
  | some a =>
    simp only [Option.isNone_some] at q
    clear hr
    go_enter Tryd.func34, Tryd.ntmps34
    have HB := Aside0.mk (Below.refl w.heap.size w)
    go_wp2_with (first | ((with_reducible refine gate_dst (N := 5) rfl ?_); refine Kd.R_lit (Kd.int .u8) _ 5 ?hg (N := 5) ?hd (xs := ([] : List Int)) (inner := []) (ok := fun _ => True) (okp := fun _ => True) ?hr ?hp (fun _ hk => hk) trivial (Below.refl _ _) (Nat.le_refl _) (by simp) ?_; (case hd => rfl); (case hg => rfl); (case hr => first | (go_simp; done) | (go_simp; rfl)); (case hp => exact Reps.none _ _); intro v1 w1 ho hb hg hnew; clear HB; have HB := Aside0.mk hb; have HO := Aside0.mk ho; clear hb ho hg hnew) | ((with_reducible refine gate_builtin (b := .append) (xs := #[.tmp 5, .tmp 6]) rfl ?_); at_builtin; go_loud (refine Kd.R_append_rows (Kd.int .u8) (w0 := w) w.heap.size rfl (.tmp 5) (.tmp 6) 44 5 (.int .u8 0) 1 rfl Tryd.underlying44 info5 rfl (by decide) (by omega) v1 [] l _ _ _ (fun _ => True) (fun _ => False) rfl rfl HO.out (Kd.C_below HR.out HB.out) (fun _ _ h => h) (fun _ h => h.elim) (fun _ _ => trivial) HB.out HB.out.size (by simp; omega) ?_); intro v2 w2 ho hb hg hat))
    go_ret
    exact ⟨_, rfl, ho, hb⟩
def slices_Clone_byte_byte.f (l : List Int) : Option (List Int) := if l.length ≤ 1000000000 then some l else none
theorem slices_Clone_byte_byte.calls (A0 : Option Addr) (c0 : Nat) (l0 : List Int) (r : List Int) (w : World) (hr0 : Kd.C (Kd.int .u8) w A0 l0.length l0) (_ : l0.length ≤ c0) (h : slices_Clone_byte_byte.f l0 = some r) :
    Calls Tryd.prog 34 #[.slice A0 l0.length c0] w fun e w' => ∃ v0_ : Value, e = .returned (v0_) ∧ Kd.R (Kd.int .u8) 5 w' w.heap.size (fun _ => True) v0_ r ∧ Below w.heap.size w w' := by
  unfold slices_Clone_byte_byte.f at h
  split at h
  · rename_i hl
    obtain rfl := Option.some.inj h
    exact clone_any A0 c0 l0 w hr0 hl
  · cases h
end Go.Proofs.YtnllfppkfdnjpabDoor.Q
