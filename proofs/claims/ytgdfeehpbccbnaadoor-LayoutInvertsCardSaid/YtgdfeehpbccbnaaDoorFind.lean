/- ops.names lays a map of all names; ops.Find looks a name up in it. -/
import Derived.Test.YtgdfeehpbccbnaaDoorOps
import Derived.Maps.Own
import Derived.Maps.OwnOps
import Derived.Maps.OwnSet
import Derived.Outline
namespace Go.Proofs.YtgdfeehpbccbnaaDoor.Ops
open Go Go.RowKit Go.Maps Go.WideMaps Go.WideElems

def keyL (s : ByteArray) : Lit := .string s.data.toList
def D : Nat → DataW Unit
  | 0 => .map []
  | k + 1 => (D k).put (keyL (opName k)) (.lit (.int .i64 k))
theorem law : Keyed Tryd.prog 9 := string_keyed Tryd.underlying9
theorem zeroE (w : World) : (zeroValue 3).run Tryd.prog w = .ok (.int .i64 0) w := by kernel_rfl
theorem name_small : (List.range 86).map (fun n => decide ((opName n).size ≤ 16)) = (List.range 86).map (fun _ => true) := by kernel_rfl
theorem name_size (n : Nat) (h : n < 86) : (opName n).size ≤ maxLen := by
  have h1 := of_range name_small n h
  have h2 : (opName n).size ≤ 16 := of_decide_eq_true h1
  unfold maxLen
  omega

set_option maxRecDepth 100000 in
theorem names_any (w : World) : Calls Tryd.prog 50 #[] w fun e w' => e = .returned (.map (some w.heap.size)) ∧
    w'.ownsMap Tryd.prog 9 (plainElem Tryd.prog 3) w.heap.size 86 (D 86) ∧ Below w.heap.size w w' := by
  have hmm : ∀ w, (Instr.makeMap 68 (some (.int .i64 86))).run Tryd.prog w = .ok (.map (some w.heap.size)) (w.alloc (.map #[] 0)) := fun _ => by kernel_rfl
  go_enter Tryd.func50, Tryd.ntmps50
  go_wp2_with (first | (go_at_call 52; refine (table_any _).mono ?_; rintro e w' ⟨rfl, rfl⟩) | go_in)
  go_loopw [6] (fun i wr => ∃ k : Nat, k ≤ 86 ∧ i = .int .i64 k ∧ wr.ownsMap Tryd.prog 9 (plainElem Tryd.prog 3) w.heap.size k (D k) ∧ Below w.heap.size w wr)
    (fun i _ => 86 - (intOf i).toNat)
  case atStart => exact ⟨0, Nat.zero_le _, rfl, (World.ownsMap_made _ _ _ _).alloc _, ((Below.refl _ _).alloc (Nat.le_refl _) _).alloc (by simp) _⟩
  case round =>
    obtain ⟨k, hk, rfl, hown, hnx⟩ := hrel
    by_cases hlt : k < 86
    · have hix := ix k hlt
      have hkey : keyOf Tryd.prog 9 (.string (opName k)) = some (keyL (opName k)) := keyOf_string_mk Tryd.underlying9 (name_size k hlt)
      have hsz := hnx.size
      have hB := hown.lt
      go_wp2_with (first
        | (at_mapUpdate; refine wpList_mapUpdate_own _ rfl _ _ _ 68 rfl 9 3 law Tryd.underlying68 _ w.heap.size k _ rfl (hown.alloc _) (by unfold maxLen; omega) _ _ _ rfl rfl hkey _ [] (plainElem_int Tryd.underlying3 (WalkArith.wf_i64 (by omega))) ?_)
        | go_in)
      intro w1 hown1 hgrow1
      have R2 := (hnx.alloc hsz _).grown hgrow1 (hnx.alloc hsz _).size (fun j hj => by cases hj; exact Nat.le_refl _)
      clear hgrow1 hown hix
      go_wp2
      go_roundw
      case rel => exact ⟨k + 1, by omega, by go_num, hown1, R2⟩
      case measure => simp [intOf]; omega
    · have : k = 86 := by omega
      subst this
      go_wp2
      go_ret
      exact ⟨rfl, hown, hnx⟩

theorem isMap_D : ∀ k, IsMap (D k)
  | 0 => isMap_empty
  | k + 1 => (isMap_D k).put _ _
theorem keyL_inj {s t : ByteArray} (h : keyL s = keyL t) : s = t := by
  obtain ⟨⟨s⟩⟩ := s
  obtain ⟨⟨t⟩⟩ := t
  unfold keyL at h
  simp only [Lit.string.injEq] at h
  rw [h]
theorem isKey (s : ByteArray) : WideAt.IsKeyLit (keyL s) := by unfold keyL; first | exact trivial | simp [WideAt.IsKeyLit]
theorem first_all : (List.range 86).map (fun i => (List.range 86).find? (fun j => (opName j).data.toList == (opName i).data.toList)) = (List.range 86).map (fun i => some i) := by kernel_rfl
theorem opName_inj {i j : Nat} (hi : i < 86) (hj : j < 86) (h : opName i = opName j) : i = j := by
  have h1 := of_range first_all i hi
  have h2 := of_range first_all j hj
  rw [h] at h1
  exact Option.some.inj (h1.symm.trans h2)
theorem at_name (z : DataW Unit) : ∀ k, k ≤ 86 → ∀ n, n < k → (D k).atKey (keyL (opName n)) z = .lit (.int .i64 n)
  | 0, _, n, h => by omega
  | k + 1, hk, n, h => by
    by_cases e : n = k
    · subst e
      exact atKey_put_same (isMap_D n) (isKey _) _ _
    · show ((D k).put (keyL (opName k)) _).atKey _ _ = _
      rw [atKey_put_other (fun he => e (opName_inj (by omega) (by omega) (keyL_inj he)))]
      exact at_name z k (by omega) n (by omega)
theorem has_name : ∀ k, k ≤ 86 → ∀ n, n < k → Maps.has (D k) (keyL (opName n)) = true
  | 0, _, n, h => by omega
  | k + 1, hk, n, h => by
    by_cases e : n = k
    · subst e
      exact has_put_same (isMap_D n) (isKey _) _
    · show Maps.has ((D k).put (keyL (opName k)) _) _ = _
      rw [has_put_other (fun he => e (opName_inj (by omega) (by omega) (keyL_inj he)))]
      exact has_name k (by omega) n (by omega)
theorem not_has (s : ByteArray) : ∀ k, (∀ n, n < k → opName n ≠ s) → Maps.has (D k) (keyL s) = false
  | 0, _ => rfl
  | k + 1, h => by
    show Maps.has ((D k).put (keyL (opName k)) _) _ = _
    rw [has_put_other (fun he => h k (by omega) (keyL_inj he).symm)]
    exact not_has s k fun n hn => h n (by omega)

/-- The number of an operation's name. -/
def findF (s : ByteArray) : Int × Bool := match (List.range 86).find? (fun n => decide (opName n = s)) with
  | some n => ((n : Int), true)
  | none => (0, false)
theorem find_some {s : ByteArray} {n : Nat} (h : n < 86) (he : opName n = s) : findF s = ((n : Int), true) := by
  have hf : (List.range 86).find? (fun m => decide (opName m = s)) = some n := by
    rw [List.find?_range_eq_some]
    refine ⟨by simpa using he, by simpa using h, ?_⟩
    intro j hj
    simp only [Bool.not_eq_eq_eq_not, Bool.not_true, decide_eq_false_iff_not]
    intro hc
    have := opName_inj (i := j) (j := n) (by omega) h (hc.trans he.symm)
    omega
  unfold findF
  rw [hf]
theorem find_none {s : ByteArray} (h : ∀ n, n < 86 → opName n ≠ s) : findF s = (0, false) := by
  have hf : (List.range 86).find? (fun m => decide (opName m = s)) = none := by
    rw [List.find?_range_eq_none]
    intro j hj
    simpa using h j hj
  unfold findF
  rw [hf]

set_option maxRecDepth 100000 in
theorem find_any (s : ByteArray) (hs : s.size ≤ maxLen) (w : World) : Calls Tryd.prog 22 #[.string s] w fun e w' => e = .returned (.tuple #[.int .i64 (findF s).1, .bool (findF s).2]) ∧ Below w.heap.size w w' := by
  have hkey : keyOf Tryd.prog 9 (.string s) = some (keyL s) := keyOf_string_mk Tryd.underlying9 hs
  go_enter Tryd.func22, Tryd.ntmps22
  go_wp2_with fail
  refine (names_any w).mono ?_
  rintro e w1 ⟨rfl, hown, hb⟩
  go_wp2_with (at_lookup; refine wpList_lookup_own_ok_int _ rfl _ _ 68 rfl 9 3 .i64 law Tryd.underlying68 Tryd.underlying3 (zeroE _) w.heap.size 86 _ rfl hown _ _ rfl hkey ?_; intro c hat hwc)
  have hc : c = (findF s).1 ∧ Maps.has (D 86) (keyL s) = (findF s).2 := by
    by_cases h : ∃ n, n < 86 ∧ opName n = s
    · obtain ⟨n, hn, rfl⟩ := h
      rw [at_name _ 86 (Nat.le_refl _) n hn] at hat
      injection hat with h1
      injection h1 with _ h2
      rw [find_some hn rfl]
      exact ⟨h2.symm, has_name 86 (Nat.le_refl _) n hn⟩
    · have hn : ∀ n, n < 86 → opName n ≠ s := fun n hn he => h ⟨n, hn, he⟩
      have hh := not_has s 86 hn
      rw [atKey_of_not_has hh] at hat
      injection hat with h1
      injection h1 with _ h2
      rw [find_none hn]
      exact ⟨h2.symm, hh⟩
  go_ret2
  exact ⟨by rw [hc.1, hc.2]; rfl, hb⟩
end Go.Proofs.YtgdfeehpbccbnaaDoor.Ops
