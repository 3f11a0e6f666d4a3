/- The law SlotIsCanonical: its function returns true; the walk. -/
import Derived.Test.YtnllfppkfdnjpabDoorPSl6
import Derived.Test.YtnllfppkfdnjpabDoorKx18
import Derived.OpenShut
namespace Go.Proofs.YtnllfppkfdnjpabDoor.Q
open Go Go.RowKit Go.Proofs.YtnllfppkfdnjpabDoor.Ops Go.Proofs.YtnllfppkfdnjpabDoorW.PrintWords

theorem enc16_le (o : Int) (r : Bool) (d s f i : Int) : (encB o r d s f i).length ≤ 16 := by
  rw [encB_length]
  split <;> omega
theorem slotIsCanonical_true (l : List Int) (hb : Bytes l) : slotcodelaw05_SlotIsCanonical.f 300 l = some true := by
  have h1 := dec_f 300 (by omega) l hb
  have hz := dec_err l
  have hE := fun o r d s f i n h => @enc_dec l hb o r d s f i n h
  generalize decB l = t at h1 hz hE
  obtain ⟨o, r, d, s, f, i, n, e⟩ := t
  unfold slotcodelaw05_SlotIsCanonical.f
  refine bindE h1 ?_
  by_cases he : e = 0
  · subst he
    have E := hE o r d s f i n rfl
    have h16 := enc16_le o r d s f i
    have n1 := E.n12
    have n2 := E.len
    refine (if_pos rfl).trans ?_
    have h2 := enc_f 300 (by omega) o r d s f i E.f1 E.f2 E.i1 E.i2
    rw [if_pos E.chk] at h2
    refine bindE h2 ?_
    refine bindE (a := true) rfl ?_
    refine (if_pos rfl).trans ?_
    refine (if_pos rfl).trans ?_
    have w8 : wrap64 (8 * n) = 8 * n := by unfold wrap64; omega
    show (if wrap64 (8 * n) ≤ (l.length : Int) then (if 0 ≤ wrap64 (8 * n) then ((slotcoderef01_Same.f 300 (encB o r d s f i) (l.take (wrap64 (8 * n)).toNat)).bind fun t => some t) else none) else some false) = some true
    rw [w8, if_pos n2, if_pos (by omega), ← E.enc]
    refine bindE (same_byte 300 _ (by omega) (by omega)) ?_
    rfl
  · have := hz he
    simp only [Prod.mk.injEq] at this
    obtain ⟨rfl, rfl, rfl, rfl, rfl, rfl, rfl, _⟩ := this
    refine (if_neg he).trans ?_
    refine bindE (a := true) rfl ?_
    refine (if_pos rfl).trans ?_
    refine (if_pos rfl).trans ?_
    rfl
end Go.Proofs.YtnllfppkfdnjpabDoor.Q
namespace Go.Proofs.YtnllfppkfdnjpabDoor.L
open Go Go.RowKit Go.Proofs.YtnllfppkfdnjpabDoor.Ops Go.Proofs.YtnllfppkfdnjpabDoor.Q Go.Proofs.YtnllfppkfdnjpabDoorW.PrintWords

theorem byte_bounds {a : Int} (h : (Lit.int .u8 a).wf = true) : 0 ≤ a ∧ a ≤ 255 := by
  have := bounds_u8 h
  omega
theorem bytes_wf {l : List Int} (q : ∀ y ∈ l, (Lit.int .u8 y).wf = true) : Bytes l := fun y hy => byte_bounds (q y hy)
theorem slotIsCanonical_walk (w : World) (hG : GG w) (A : Option Addr) (c : Nat) (l : List Int) (hc : l.length ≤ c) (hr : Kd.C (Kd.int .u8) w A l.length l) (q : ∀ y ∈ l, (Lit.int .u8 y).wf = true) :
    Calls Tryd.prog 12 #[.slice A l.length c] w fun e w' => e = .returned (.bool true) ∧ Below w.heap.size w w' :=
  slotcodelaw05_SlotIsCanonical.calls 300 A c l true w hr hc (slotIsCanonical_true l (bytes_wf q)) hG
end Go.Proofs.YtnllfppkfdnjpabDoor.L
