/- Arguments of every printed kind, opened: what a row's datum reads is what the kind's K says. -/
import Derived.Test.YtnllfppkfdnjpabDoorWWords
import Derived.Test.YtnllfppkfdnjpabDoorProg
import Derived.Deep.Slices
import Derived.WalkKit
import Derived.ProofKit
import Derived.OpenShut
namespace Go.Proofs.YtnllfppkfdnjpabDoor.Q
open Go Go.ChangeShapes Go.WideShapes Go.RowKit Go.Proofs.YtnllfppkfdnjpabDoorW.PrintWords

structure Opens (P : Program) (t : TypeId) {α : Type} (d : Kd α) (Q : α → Prop) : Prop where
  out : ∀ {H : Type} {enc : TypeId × Value → H} {w : World} {base : Nat} {spare : Nat → Bool} {held : Bool} {fuel : Nat} {cs : List Value} {x : DataW H × List MemPlace},
    DataW.trod enc P w base spare held fuel t cs = some x → ∃ a : α, d.K w a cs ∧ Q a

theorem opens_int {P : Program} {t : TypeId} {k : IntKind} (ht : P.underlying t = some (.int k)) : Opens P t (Kd.int k) (fun n => (Lit.int k n).wf = true) := by
  constructor
  intro H enc w base spare held fuel cs x h
  obtain ⟨n, rfl, _, hw⟩ := DataW.trod_int ht h
  exact ⟨n, rfl, hw⟩
theorem opens_bool {P : Program} {t : TypeId} (ht : P.underlying t = some .bool) : Opens P t Kd.bool (fun _ => True) := by
  constructor
  intro H enc w base spare held fuel cs x h
  obtain ⟨n, rfl, _⟩ := DataW.trod_bool ht h
  exact ⟨n, rfl, trivial⟩
theorem opens_slice {P : Program} {t e : TypeId} {α : Type} {d : Kd α} {Q : α → Prop} (ht : P.underlying t = some (.slice e)) (hs : P.cellsOf e = d.sz) (he : Opens P e d Q) : Opens P t (Kd.slice e d) (fun xs => ∀ x ∈ xs, Q x) := by
  constructor
  intro H enc w base spare held fuel cs x h
  rcases Go.Deep.open_slice ht h with ⟨rfl, _⟩ | ⟨a, len, cap, m, n, D, Pl, rfl, hb, hl, hm, hmm, _, hx⟩
  · exact ⟨[], ⟨none, 0, rfl, Nat.le_refl _, rfl, by simp, fun h => by simp at h⟩, by simp⟩
  · have hlm : len ≤ m := by rw [hmm]; split <;> omega
    have each : ∀ i, i < len → ∃ q : α, (∃ c, c.length = d.sz ∧ d.K w q c ∧ ∀ j u, c[j]? = some u → w.cell? (a.add (i * d.sz + j)) = some u) ∧ Q q := by
      intro i hi
      obtain ⟨cs', h1, h2⟩ := hx i (by omega)
      obtain ⟨q, hK, hQ⟩ := he.out h2
      obtain ⟨_, hlen, hcell⟩ := World.cells?_some h1
      refine ⟨q, ⟨cs', d.K_len hK, hK, fun j u hj => ?_⟩, hQ⟩
      obtain ⟨hjl, rfl⟩ := List.getElem?_eq_some_iff.1 hj
      have := hcell j (by omega)
      rw [add_add, hs] at this
      rw [this]
      simp [hjl]
    by_cases h0 : len = 0
    · subst h0
      exact ⟨[], ⟨some a, cap, rfl, Nat.zero_le _, rfl, by simp, fun h => by simp at h⟩, by simp⟩
    · have : Inhabited α := ⟨Classical.choose (each 0 (by omega))⟩
      obtain ⟨f, hf⟩ := Go.Deep.choose_lt each
      have hmax : cap ≤ 9223372036854775807 := by unfold maxLen at hm; exact hm
      refine ⟨(List.range len).map f, ⟨some a, cap, by simp, by simpa using hl, by simp, by simp; omega, fun _ => ⟨a, rfl, fun j p hp => ?_⟩⟩, ?_⟩
      · simp only [List.getElem?_map, Option.map_eq_some_iff] at hp
        obtain ⟨i, hi, rfl⟩ := hp
        have hi2 := List.getElem?_eq_some_iff.1 hi
        obtain ⟨hl2, hi3⟩ := hi2
        simp at hi3 hl2
        subst hi3
        exact (hf j hl2).1
      · intro x hx
        simp only [List.mem_map, List.mem_range] at hx
        obtain ⟨i, hi, rfl⟩ := hx
        exact (hf i hi).2

structure Flds (P : Program) (fs : List Field) (off : Nat) {α : Type} (d : Kd α) (Q : α → Prop) : Prop where
  out : ∀ {H : Type} {enc : TypeId × Value → H} {w : World} {base : Nat} {spare : Nat → Bool} {held : Bool} {n : Nat} (cs : List Value) (ys : List (DataW H × List MemPlace)), cs.length = off + d.sz → ys.length = fs.length →
    (∀ (i : Nat) (f : Field), fs[i]? = some f → DataW.trod enc P w base spare held n f.type ((cs.drop f.offset).take (P.cellsOf f.type)) = ys[i]?) → ∃ a : α, d.K w a (cs.drop off) ∧ Q a
theorem flds_one {P : Program} {f : Field} {off : Nat} {α : Type} {d : Kd α} {Q : α → Prop} (ho : f.offset = off) (hs : P.cellsOf f.type = d.sz) (h : Opens P f.type d Q) : Flds P [f] off d Q := by
  constructor
  intro H enc w base spare held n cs ys hc hy hf
  match ys, hy with
  | [y], _ =>
    have h0 := hf 0 f rfl
    rw [ho, hs, List.take_of_length_le (by simp; omega)] at h0
    exact h.out h0
theorem flds_cons {P : Program} {f : Field} {fs : List Field} {off : Nat} {α β : Type} {d : Kd α} {ds : Kd β} {Q : α → Prop} {Qs : β → Prop} (ho : f.offset = off) (hs : P.cellsOf f.type = d.sz) (h : Opens P f.type d Q)
    (hr : Flds P fs (off + d.sz) ds Qs) : Flds P (f :: fs) off (Kd.pair d ds) (fun p => Q p.1 ∧ Qs p.2) := by
  constructor
  intro H enc w base spare held n cs ys hc hy hf
  match ys, hy with
  | y :: ys, hy =>
    have hsz : (Kd.pair d ds).sz = d.sz + ds.sz := rfl
    have h0 := hf 0 f rfl
    rw [ho, hs] at h0
    obtain ⟨a, hK, hQ⟩ := h.out h0
    obtain ⟨b, hK2, hQ2⟩ := hr.out cs ys (by omega) (by simpa using hy) (fun i g hg => by simpa using hf (i + 1) g (by simpa using hg))
    refine ⟨(a, b), ⟨_, _, ?_, hK, hK2⟩, hQ, hQ2⟩
    rw [← List.drop_drop, List.take_append_drop]
theorem opens_struct {P : Program} {t : TypeId} {fs : Array Field} {α β : Type} {d : Kd α} {Q : α → Prop} (f : β → α) (hsur : ∀ a, ∃ b, f b = a) (ht : P.underlying t = some (.struct fs)) (hs : P.cellsOf t = d.sz) (h : Flds P fs.toList 0 d Q) :
    Opens P t (Kd.iso d f) (fun b => Q (f b)) := by
  constructor
  intro H enc w base spare held fuel cs x hx
  obtain ⟨xs, n, _, _, hl, hlen, hf⟩ := DataW.trod_struct ht hx
  obtain ⟨a, hK, hQ⟩ := h.out cs xs (by omega) (by simpa using hlen) (fun i g hg => hf i g (by simpa using hg))
  obtain ⟨b, rfl⟩ := hsur a
  exact ⟨b, by show d.K w (f b) cs; simpa using hK, hQ⟩
theorem opens_value {P : Program} {t : TypeId} {α : Type} {d : Kd α} {Q : α → Prop} (h : Opens P t d Q) {H : Type} {enc : TypeId × Value → H} {w : World} {base : Nat} {spare : Nat → Bool} {held : Bool} {v : Value} {x : DataW H} {p : List MemPlace}
    (hv : DataW.Trod enc P w base spare held t v x p) : ∃ a : α, d.K w a v.cells.toList ∧ Q a := by
  obtain ⟨fuel, hf⟩ := hv
  exact h.out hf
end Go.Proofs.YtnllfppkfdnjpabDoor.Q
