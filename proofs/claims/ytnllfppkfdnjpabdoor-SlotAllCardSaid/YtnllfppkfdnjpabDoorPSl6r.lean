/- Chapter 5 in numbers: the reference's All. -/
import Derived.Test.YtnllfppkfdnjpabDoorPSl6
import Derived.Test.YtnllfppkfdnjpabDoorPSl5
import Derived.Test.YtnllfppkfdnjpabDoorKx14
namespace Go.Proofs.YtnllfppkfdnjpabDoor.Q
open Go Go.RowKit Go.Proofs.YtnllfppkfdnjpabDoor.Ops Go.Proofs.YtnllfppkfdnjpabDoorW.PrintWords

theorem rall_go : ∀ (d k : Nat) (b : List Int) (out : List S23) (i : Int), Bytes b → b.length ≤ 60000 → 0 ≤ i → 8 * i ≤ b.length → (b.drop (8 * i).toNat).length ≤ d → 265 + d ≤ k → out.length + d ≤ 100000 →
    slotcoderef05_All.l0 k b out i = some (allGo (runB (d + 1) (b.drop (8 * i).toNat)) out i)
  | d, k, b, out, i, hb, hl, h0, h1, hd, hk, ho => by
    obtain ⟨k, rfl⟩ : ∃ m, k = m + 1 := ⟨k - 1, by omega⟩
    have w8 : wrap64 (8 * i) = 8 * i := by unfold wrap64; omega
    have hlen := List.length_drop (l := b) (i := (8 * i).toNat)
    rw [slotcoderef05_All.l0, w8, runB]
    by_cases he : 8 * i < (b.length : Int)
    · rw [if_pos he, if_pos (by omega), if_pos (by omega), if_neg (by omega), rdec_f k (by omega) _ (bytes_drop hb _)]
      refine bindE rfl ?_
      show (if (decD (b.drop (8 * i).toNat)).e = 0 then (if out.length < 2932031007402 then slotcoderef05_All.l0 k b (out ++ [(decD (b.drop (8 * i).toNat)).x]) (wrap64 (i + (decD (b.drop (8 * i).toNat)).n)) else none) else some ([], i, (decD (b.drop (8 * i).toNat)).e)) = _
      by_cases hz : (decD (b.drop (8 * i).toNat)).e = 0
      · have E := decD_enc (bytes_drop hb (8 * i).toNat) hz
        have n1 := E.n12
        have n2 := E.len
        rw [if_pos hz, if_pos hz, if_pos (by omega)]
        have wn : wrap64 (i + (decD (b.drop (8 * i).toNat)).n) = i + (decD (b.drop (8 * i).toNat)).n := by unfold wrap64; omega
        have ed : (b.drop (8 * i).toNat).drop (8 * (decD (b.drop (8 * i).toNat)).n).toNat = b.drop (8 * (i + (decD (b.drop (8 * i).toNat)).n)).toNat := by
          rw [List.drop_drop]
          congr 1
          omega
        show _ = some (if (decD (b.drop (8 * i).toNat)).e = 0 then allGo (runB d _) (out ++ [(decD (b.drop (8 * i).toNat)).x]) (wrap64 (i + (decD (b.drop (8 * i).toNat)).n)) else _)
        rw [if_pos hz, wn, ed]
        generalize (decD (b.drop (8 * i).toNat)).n = n at *
        generalize (decD (b.drop (8 * i).toNat)).x = x at *
        have hl2 := List.length_drop (l := b) (i := (8 * (i + n)).toNat)
        match d, hd, hk, ho with
        | 0, hd, _, _ => omega
        | d + 1, hd, hk, ho => exact rall_go d k b (out ++ [x]) (i + n) hb hl (by omega) (by omega) (by omega) (by omega) (by simp; omega)
      · rw [if_neg hz, if_neg hz]
        show _ = some (if (decD (b.drop (8 * i).toNat)).e = 0 then _ else ([], i, (decD (b.drop (8 * i).toNat)).e))
        rw [if_neg hz]
    · rw [if_neg he, if_pos (by omega)]
      rfl
theorem rall_f (k : Nat) (b : List Int) (hb : Bytes b) (hk : 265 + b.length ≤ k) (hl : b.length ≤ 60000) : slotcoderef05_All.f k b = some (allB b) := by
  unfold slotcoderef05_All.f
  have := rall_go b.length k b [] 0 hb hl (by omega) (by omega) (by simp) hk (by simp; omega)
  rw [this]
  rfl
end Go.Proofs.YtnllfppkfdnjpabDoor.Q
