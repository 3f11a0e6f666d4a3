/- The law SlotAll: its function returns true; the walk. -/
import Derived.Test.YtnllfppkfdnjpabDoorPSl6r
import Derived.Test.YtnllfppkfdnjpabDoorKx19
import Derived.OpenShut
namespace Go.Proofs.YtnllfppkfdnjpabDoor.Q
open Go Go.RowKit Go.Proofs.YtnllfppkfdnjpabDoor.Ops Go.Proofs.YtnllfppkfdnjpabDoorW.PrintWords

theorem slotAll_true (l : List Int) (hb : Bytes l) : slotcodelaw05_SlotAll.f 5000 l = some true := by
  unfold slotcodelaw05_SlotAll.f
  by_cases hl : (l.length : Int) > 4000
  · refine (if_pos hl).trans ?_
    rfl
  · refine (if_neg hl).trans ?_
    have hlen := allB_len hb
    have hj : slot_Join.f 4999 (allB l).1 = some (if (allB l).2.2 = 0 then (l, 0, 0) else ([], 0, 0)) := by
      by_cases he : (allB l).2.2 = 0
      · obtain ⟨a, b⟩ := allB_join hb he
        rw [join_f 4999 _ (fun x hx => (b x hx).1) (by omega) (by omega), jn_good _ _ _ (fun x hx => (b x hx).2), a, if_pos he]
        rfl
      · rw [allB_err he, if_neg he]
        exact join_f 4999 [] (fun x hx => by cases hx) (by simp) (by simp)
    have h1 := all_f 5000 l hb (by omega) (by omega)
    have h2 := rall_f 5000 l hb (by omega) (by omega)
    generalize allB l = t at hj h1 h2 hlen
    obtain ⟨x, n, e⟩ := t
    refine bindE h1 ?_
    refine bindE h2 ?_
    refine bindE (same_ins 5000 x (by show x.length < _; have : x.length ≤ l.length := hlen; omega) (by have : x.length ≤ l.length := hlen; omega)) ?_
    refine (if_pos rfl).trans ?_
    refine (if_pos rfl).trans ?_
    show slotcodelaw05_SlotAll.j0 (4999 + 1) l x e (e != e) = _
    rw [slotcodelaw05_SlotAll.j0]
    refine (if_neg (by simp)).trans ?_
    refine bindE hj ?_
    refine bindE (a := true) rfl ?_
    refine (if_pos rfl).trans ?_
    show (if (if e = 0 then ((l, 0, 0) : List Int × Int × Int) else ([], 0, 0)).2.1 = 0 then if (if e = 0 then ((l, 0, 0) : List Int × Int × Int) else ([], 0, 0)).2.2 = 0 then if e = 0 then (slotcoderef01_Same.f 4999 (if e = 0 then ((l, 0, 0) : List Int × Int × Int) else ([], 0, 0)).1 l).bind fun t => some t else some true else some false else some false) = _
    by_cases he : e = 0
    · simp only [if_pos he, if_true]
      refine bindE (same_byte 4999 l (by omega) (by omega)) ?_
      rfl
    · simp only [if_neg he]
      rfl
end Go.Proofs.YtnllfppkfdnjpabDoor.Q
namespace Go.Proofs.YtnllfppkfdnjpabDoor.L
open Go Go.RowKit Go.Proofs.YtnllfppkfdnjpabDoor.Ops Go.Proofs.YtnllfppkfdnjpabDoor.Q Go.Proofs.YtnllfppkfdnjpabDoorW.PrintWords

theorem byte_bounds {a : Int} (h : (Lit.int .u8 a).wf = true) : 0 ≤ a ∧ a ≤ 255 := by
  have := bounds_u8 h
  omega
theorem bytes_wf {l : List Int} (q : ∀ y ∈ l, (Lit.int .u8 y).wf = true) : Bytes l := fun y hy => byte_bounds (q y hy)
theorem slotAll_walk (w : World) (hG : GG w) (A : Option Addr) (c : Nat) (l : List Int) (hc : l.length ≤ c) (hr : Kd.C (Kd.int .u8) w A l.length l) (q : ∀ y ∈ l, (Lit.int .u8 y).wf = true) :
    Calls Tryd.prog 13 #[.slice A l.length c] w fun e w' => e = .returned (.bool true) ∧ Below w.heap.size w w' :=
  slotcodelaw05_SlotAll.calls 5000 A c l true w hr hc (slotAll_true l (bytes_wf q)) hG
end Go.Proofs.YtnllfppkfdnjpabDoor.L
