/- Arguments that are arrays of two ints, opened. -/
import Derived.Test.YtcbhmnaakoegbaaDoorProg
import Derived.WalkKit
import Derived.ProofKit
import Derived.OpenShut
import Derived.Lib.SmallJoins
namespace Go.Proofs.YtcbhmnaakoegbaaDoor
open Go Go.ChangeShapes Go.WideShapes Go.ChangeAt Go.RowKit

theorem okWide_array {P : Program} {w : World} {r : Reach} {base : Nat} {t e n : Nat} {v : Value} (ht : P.underlying t = some (.array n e)) (h : Value.okWide P w r base t v) : ∃ cs, v = .agg cs ∧ cs.size = P.cellsOf t := by
  simp only [Value.okWide, ht] at h
  obtain ⟨cs, h1, h2, _⟩ := h
  exact ⟨cs, h1, h2⟩

theorem open_arr2 {H : Type} {enc : TypeId × Value → H} {P : Program} {w : World} {base b0 : Nat} {spare : Nat → Bool} {held : Bool} {r : Reach} {t e : TypeId} {v : Value} {d : DataW H} {p : List MemPlace}
    (ht : P.underlying t = some (.array 2 e)) (he : P.underlying e = some (.int .i64)) (h1 : P.cellsOf e = 1) (h2 : P.cellsOf t = 2)
    (hv : Value.okWide P w r b0 t v) (h : DataW.Trod enc P w base spare held t v d p) :
    ∃ a b : Int, v = .agg #[.int .i64 a, .int .i64 b] ∧ (Lit.int .i64 a).wf = true ∧ (Lit.int .i64 b).wf = true := by
  obtain ⟨cs, rfl, hsz⟩ := okWide_array ht hv
  obtain ⟨c0, c1, rfl⟩ := Go.Joins.array2 (hsz.trans h2)
  obtain ⟨fuel, hf⟩ := h
  obtain ⟨xs, m, _, _, _, hn, hel⟩ := DataW.trod_array ht hf
  have k0 := hel 0 (by decide)
  have k1 := hel 1 (by decide)
  rw [h1] at k0 k1
  match xs, hn, k0, k1 with
  | [x0, x1], _, k0, k1 =>
    obtain ⟨a, e0, _, wa⟩ := DataW.trod_int he (show DataW.trod enc P w base spare held m e _ = some x0 from k0)
    obtain ⟨b, e1, _, wb⟩ := DataW.trod_int he (show DataW.trod enc P w base spare held m e _ = some x1 from k1)
    simp [Value.cells] at e0 e1
    subst e0 e1
    exact ⟨a, b, rfl, wa, wb⟩
end Go.Proofs.YtcbhmnaakoegbaaDoor
