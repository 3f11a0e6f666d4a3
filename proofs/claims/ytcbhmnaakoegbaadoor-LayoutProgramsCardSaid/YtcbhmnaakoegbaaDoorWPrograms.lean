/- The instructions and the relocations of a program, in the program and in the reference: plain laws. -/
import Derived.Test.YtcbhmnaakoegbaaDoorPLayA
import Derived.Test.YtcbhmnaakoegbaaDoorYx4
import Derived.OpenShut
namespace Go.Proofs.YtcbhmnaakoegbaaDoor.Q
open Go Go.RowKit Go.Proofs.YtcbhmnaakoegbaaDoor.Ops Go.Proofs.YtcbhmnaakoegbaaDoorW.PrintWords

abbrev St := S40
abbrev De := S50
abbrev In := S38
abbrev Re := S34
def codeF (ss : List St) : List In := ss.map (fun s => s.f1)
theorem codeF_length (ss : List St) : (codeF ss).length = ss.length := by simp [codeF]
theorem inc (x : Nat) (h : x ≤ 1000000) : wrap64 ((x : Int) + 1) = ((x + 1 : Nat) : Int) := by unfold wrap64; omega
theorem rd_stmt (ss : List St) (i : Nat) (h : i < ss.length) : rd_T40 ss (i : Int) = ss[i] := by
  simp [rd_T40, h]
theorem rd_code (ss : List St) (i : Nat) (h : i < ss.length) : rd_T38 (codeF ss) (i : Int) = (rd_T40 ss (i : Int)).f1 := by
  simp [rd_T38, rd_T40, codeF, h]

/-! The instructions. -/
theorem rcode_l0 (maps : List De) (ss : List St) (hs : ss.length ≤ 60) : ∀ (d x k : Nat), x + d = ss.length → d + 1 ≤ k → slotcoderef12_Code.l0 k ((codeF ss).take x) x maps ss = some (codeF ss)
  | 0, x, k, h, hk => by
    obtain ⟨k, rfl⟩ : ∃ m, k = m + 1 := ⟨k - 1, by omega⟩
    rw [slotcoderef12_Code.l0, if_neg (by omega), List.take_of_length_le (by rw [codeF_length]; omega)]
  | d + 1, x, k, h, hk => by
    obtain ⟨k, rfl⟩ : ∃ m, k = m + 1 := ⟨k - 1, by omega⟩
    have hx : x < ss.length := by omega
    have ih := rcode_l0 maps ss hs d (x + 1) k (by omega) (by omega)
    rw [slotcoderef12_Code.l0, if_pos (by omega), if_pos (by omega), if_pos (by simp [codeF]; omega), inc x (by omega)]
    rw [List.take_succ_eq_append_getElem (by rw [codeF_length]; exact hx)] at ih
    rw [rd_stmt ss x hx]
    simpa [codeF] using ih
theorem rcode_f (maps : List De) (ss : List St) (hs : ss.length ≤ 60) (k : Nat) (hk : 100 ≤ k) : slotcoderef12_Code.f k maps ss = some (codeF ss) := by
  have h := rcode_l0 maps ss hs ss.length 0 k (by omega) (by omega)
  rw [List.take_zero] at h
  exact h
theorem code_l0 (ss : List St) (hs : ss.length ≤ 60) : ∀ (d x k : Nat) (acc : List In), x + d = ss.length → acc.length = ss.length → acc.take x = (codeF ss).take x → d + 1 ≤ k → layout_Code.l0 k acc ss (ss.length : Int) x = some (codeF ss)
  | 0, x, k, acc, h, hl, ht, hk => by
    obtain ⟨k, rfl⟩ : ∃ m, k = m + 1 := ⟨k - 1, by omega⟩
    rw [layout_Code.l0, if_neg (by omega)]
    rw [List.take_of_length_le (by omega), List.take_of_length_le (by rw [codeF_length]; omega)] at ht
    rw [ht]
  | d + 1, x, k, acc, h, hl, ht, hk => by
    obtain ⟨k, rfl⟩ : ∃ m, k = m + 1 := ⟨k - 1, by omega⟩
    have hx : x < ss.length := by omega
    rw [layout_Code.l0, if_pos (by omega), if_pos (by omega), if_pos (by omega), if_pos (by omega), inc x (by omega)]
    refine code_l0 ss hs d (x + 1) k _ (by omega) (by simp [hl]) ?_ (by omega)
    rw [Int.toNat_natCast, List.take_succ_eq_append_getElem (by simp [hl]; omega), List.take_succ_eq_append_getElem (by rw [codeF_length]; exact hx), List.take_set_of_le (Nat.le_refl _), ht, List.getElem_set_self, rd_stmt ss x hx]
    simp [codeF]
theorem code_f (maps : List De) (ss : List St) (hs : ss.length ≤ 60) (k : Nat) (hk : 100 ≤ k) : layout_Code.f k maps ss = some (codeF ss) := by
  unfold layout_Code.f
  rw [if_pos (by omega), if_pos (by omega)]
  exact code_l0 ss hs ss.length 0 k _ (by omega) (by simp) rfl (by omega)
theorem same_l0 (l : List In) (hl : l.length ≤ 60) : ∀ (d x k : Nat), x + d = l.length → d + 1 ≤ k → slotcoderef05_Same.l0 k l l x = some true
  | 0, x, k, h, hk => by
    obtain ⟨k, rfl⟩ : ∃ m, k = m + 1 := ⟨k - 1, by omega⟩
    rw [slotcoderef05_Same.l0, if_neg (by omega)]
  | d + 1, x, k, h, hk => by
    obtain ⟨k, rfl⟩ : ∃ m, k = m + 1 := ⟨k - 1, by omega⟩
    have ih := same_l0 l hl d (x + 1) k (by omega) (by omega)
    rw [slotcoderef05_Same.l0, if_pos (by omega), if_pos (by omega), if_pos (by omega), inc x (by omega)]
    simpa using ih
theorem same_f (l : List In) (hl : l.length ≤ 60) (k : Nat) (hk : 100 ≤ k) : slotcoderef05_Same.f k l l = some true := by
  unfold slotcoderef05_Same.f
  rw [if_pos rfl]
  exact same_l0 l hl l.length 0 k (by omega) (by omega)
theorem equal_l0 (l : List Re) (hl : l.length ≤ 60) : ∀ (d x k : Nat), x + d = l.length → d + 1 ≤ k → api_Reloc.l0 k l l (l.length : Int) x = some true
  | 0, x, k, h, hk => by
    obtain ⟨k, rfl⟩ : ∃ m, k = m + 1 := ⟨k - 1, by omega⟩
    rw [api_Reloc.l0, if_neg (by omega)]
  | d + 1, x, k, h, hk => by
    obtain ⟨k, rfl⟩ : ∃ m, k = m + 1 := ⟨k - 1, by omega⟩
    have ih := equal_l0 l hl d (x + 1) k (by omega) (by omega)
    rw [api_Reloc.l0, if_pos (by omega), if_pos (by omega), if_pos (by omega), if_pos (by omega), inc x (by omega)]
    simpa using ih
theorem equal_f (l : List Re) (hl : l.length ≤ 60) (k : Nat) (hk : 100 ≤ k) : api_Reloc.f k l l = some true := by
  unfold api_Reloc.f
  rw [if_pos rfl]
  exact equal_l0 l hl l.length 0 k (by omega) (by omega)

/-! The relocations. -/
def mapFrom (maps : List De) (name : ByteArray) : Nat → Nat → Int
  | 0, _ => -1
  | d + 1, x => if ((rd_T50 maps (x : Int)).f0).toList = name.toList then x else mapFrom maps name d (x + 1)
theorem mapFrom_succ (maps : List De) (name : ByteArray) (d x : Nat) : mapFrom maps name (d + 1) x = if ((rd_T50 maps (x : Int)).f0).toList = name.toList then (x : Int) else mapFrom maps name d (x + 1) := rfl
theorem mapFrom_range (maps : List De) (name : ByteArray) : ∀ d x, mapFrom maps name d x = -1 ∨ 0 ≤ mapFrom maps name d x
  | 0, _ => .inl rfl
  | d + 1, x => by
    unfold mapFrom
    split
    · right; omega
    · exact mapFrom_range maps name d (x + 1)
theorem rmap_l0 (maps : List De) (ss : List St) (hm : maps.length ≤ 300) (name : ByteArray) : ∀ (d x k : Nat), x + d = maps.length → d + 1 ≤ k → slotcoderef10_Map.l0 k name x maps ss = some (mapFrom maps name d x)
  | 0, x, k, h, hk => by
    obtain ⟨k, rfl⟩ : ∃ m, k = m + 1 := ⟨k - 1, by omega⟩
    rw [slotcoderef10_Map.l0, if_neg (by omega)]
    rfl
  | d + 1, x, k, h, hk => by
    obtain ⟨k, rfl⟩ : ∃ m, k = m + 1 := ⟨k - 1, by omega⟩
    have ih := rmap_l0 maps ss hm name d (x + 1) k (by omega) (by omega)
    rw [slotcoderef10_Map.l0, if_pos (by omega), if_pos (by omega), inc x (by omega), ih, mapFrom_succ]
    split <;> rfl
def stepR (maps : List De) (ss : List St) (i : Nat) (acc : List Re) : List Re :=
  if formS (rd_T40 ss (i : Int)).f1.f0 = 11 then (if mapFrom maps (rd_T40 ss (i : Int)).f3 maps.length 0 ≥ 0 then acc ++ [⟨startF (codeF ss) i, mapFrom maps (rd_T40 ss (i : Int)).f3 maps.length 0⟩] else acc) else acc
def relF (maps : List De) (ss : List St) : Nat → Nat → List Re → List Re
  | 0, _, acc => acc
  | d + 1, i, acc => relF maps ss d (i + 1) (stepR maps ss i acc)
theorem stepR_length (maps : List De) (ss : List St) (i : Nat) (acc : List Re) : (stepR maps ss i acc).length ≤ acc.length + 1 := by
  unfold stepR
  split
  · split
    · simp
    · omega
  · omega
theorem relF_length (maps : List De) (ss : List St) : ∀ (d i : Nat) (acc : List Re), (relF maps ss d i acc).length ≤ acc.length + d
  | 0, _, _ => Nat.le_refl _
  | d + 1, i, acc => by
    have h1 := relF_length maps ss d (i + 1) (stepR maps ss i acc)
    have h2 := stepR_length maps ss i acc
    unfold relF
    omega
theorem rref_l0 (maps : List De) (ss : List St) (hm : maps.length ≤ 300) (hs : ss.length ≤ 60) : ∀ (d i k : Nat) (acc : List Re), i + d = ss.length → acc.length ≤ i → d + 400 ≤ k → slotcoderef12_References.l0 k acc (codeF ss) i maps ss = some (relF maps ss d i acc)
  | 0, i, k, acc, h, ha, hk => by
    obtain ⟨k, rfl⟩ : ∃ m, k = m + 1 := ⟨k - 1, by omega⟩
    rw [slotcoderef12_References.l0, if_neg (by rw [codeF_length]; omega)]
    rfl
  | d + 1, i, k, acc, h, ha, hk => by
    obtain ⟨k, rfl⟩ : ∃ m, k = m + 1 := ⟨k - 1, by omega⟩
    have hi : i < ss.length := by omega
    have hl := stepR_length maps ss i acc
    have ih := rref_l0 maps ss hm hs d (i + 1) k (stepR maps ss i acc) (by omega) (by omega) (by omega)
    have hmap : slotcoderef10_Map.f k maps ss (rd_T40 ss (i : Int)).f3 = some (mapFrom maps (rd_T40 ss (i : Int)).f3 maps.length 0) := rmap_l0 maps ss hm _ maps.length 0 k (by omega) (by omega)
    rw [slotcoderef12_References.l0, if_pos (by rw [codeF_length]; omega), if_pos (by omega), if_pos (by omega), hmap, rd_code ss i hi, form_f k (by omega)]
    simp only [Option.bind_some]
    unfold relF
    rw [← ih, inc i (by omega)]
    unfold stepR
    by_cases h11 : formS (rd_T40 ss (i : Int)).f1.f0 = 11
    · rw [if_pos h11, if_pos h11]
      by_cases hg : mapFrom maps (rd_T40 ss (i : Int)).f3 maps.length 0 ≥ 0
      · rw [if_pos hg, if_pos hg, start_f (codeF ss) (by rw [codeF_length]; omega) i (by rw [codeF_length]; omega) k (by omega)]
        simp only [Option.bind_some]
        rw [if_pos (by omega)]
      · rw [if_neg hg, if_neg hg]
    · rw [if_neg h11, if_neg h11]
theorem rref_f (maps : List De) (ss : List St) (hm : maps.length ≤ 300) (hs : ss.length ≤ 60) (k : Nat) (hk : 1000 ≤ k) : slotcoderef12_References.f k maps ss = some (relF maps ss ss.length 0 []) := by
  unfold slotcoderef12_References.f
  rw [rcode_f maps ss hs k (by omega)]
  exact rref_l0 maps ss hm hs ss.length 0 k [] (by omega) (by simp) (by omega)
/-- The inner loop: the first map of this name. -/
theorem inner (maps : List De) (ss : List St) (hm : maps.length ≤ 300) (acc : List Re) (i : Nat) (hi : i < ss.length) (hs : ss.length ≤ 60) (ha : acc.length ≤ i) (R : Option (List Re)) (K : Nat) (lb : List ByteArray) (y0 : Int) (y1 : Bool) (y2 y3 y4 y5 : Int) (tg name : ByteArray) :
    ∀ (d x k : Nat), x + d = maps.length → d + 1 + K ≤ k →
      (∀ k', K ≤ k' → layout_References.l0 k' (if mapFrom maps name d x ≥ 0 then acc ++ [⟨startF (codeF ss) i, mapFrom maps name d x⟩] else acc) (startsF (codeF ss)) ss (ss.length : Int) ((i + 1 : Nat) : Int) maps ss = R) →
      layout_References.l1 k acc (startsF (codeF ss)) i ss (ss.length : Int) i maps (maps.length : Int) x maps ss lb y0 y1 y2 y3 y4 y5 tg name = R
  | 0, x, k, h, hk, hR => by
    obtain ⟨k, rfl⟩ : ∃ m, k = m + 1 := ⟨k - 1, by omega⟩
    rw [layout_References.l1, if_neg (by omega), inc i (by omega)]
    have := hR k (by omega)
    rw [if_neg (by unfold mapFrom; omega)] at this
    exact this
  | d + 1, x, k, h, hk, hR => by
    obtain ⟨k, rfl⟩ : ∃ m, k = m + 1 := ⟨k - 1, by omega⟩
    rw [layout_References.l1, if_pos (by omega), if_pos (by omega), if_pos (by omega)]
    by_cases e : ((rd_T50 maps (x : Int)).f0).toList = name.toList
    · have hf : mapFrom maps name (d + 1) x = x := by unfold mapFrom; rw [if_pos e]
      have := hR k (by omega)
      rw [hf, if_pos (by omega)] at this
      rw [if_pos e, if_pos (by omega), if_pos (by rw [startsF_length, codeF_length]; omega), if_pos (by omega), rd_startsF _ _ (by rw [codeF_length]; omega), inc i (by omega)]
      exact this
    · have hf : mapFrom maps name (d + 1) x = mapFrom maps name d (x + 1) := by conv => lhs; unfold mapFrom; rw [if_neg e]
      rw [hf] at hR
      rw [if_neg e, inc x (by omega)]
      exact inner maps ss hm acc i hi hs ha R K lb y0 y1 y2 y3 y4 y5 tg name d (x + 1) k (by omega) (by omega) hR
theorem ref_l0 (maps : List De) (ss : List St) (hm : maps.length ≤ 300) (hs : ss.length ≤ 60) : ∀ (d i k : Nat) (acc : List Re), i + d = ss.length → acc.length ≤ i → 400 * d + 10 ≤ k → layout_References.l0 k acc (startsF (codeF ss)) ss (ss.length : Int) i maps ss = some (relF maps ss d i acc)
  | 0, i, k, acc, h, ha, hk => by
    obtain ⟨k, rfl⟩ : ∃ m, k = m + 1 := ⟨k - 1, by omega⟩
    rw [layout_References.l0, if_neg (by omega)]
    rfl
  | d + 1, i, k, acc, h, ha, hk => by
    obtain ⟨k, rfl⟩ : ∃ m, k = m + 1 := ⟨k - 1, by omega⟩
    have hi : i < ss.length := by omega
    have hl := stepR_length maps ss i acc
    have ih := fun k' (hk' : 400 * d + 10 ≤ k') => ref_l0 maps ss hm hs d (i + 1) k' (stepR maps ss i acc) (by omega) (by omega) hk'
    rw [layout_References.l0, if_pos (by omega), if_pos (by omega), if_pos (by omega)]
    unfold ops_Form.f relF
    simp only [Option.bind_some]
    unfold stepR at ih ⊢
    by_cases h11 : formS (rd_T40 ss (i : Int)).f1.f0 = 11
    · rw [if_pos h11] at ih ⊢
      rw [if_pos h11]
      exact inner maps ss hm acc i hi hs ha _ (400 * d + 10) _ _ _ _ _ _ _ _ _ maps.length 0 k (by omega) (by omega) ih
    · rw [if_neg h11] at ih ⊢
      rw [if_neg h11, inc i (by omega)]
      exact ih k (by omega)
theorem ref_f (maps : List De) (ss : List St) (hm : maps.length ≤ 300) (hs : ss.length ≤ 60) (k : Nat) (hk : 30000 ≤ k) : layout_References.f k maps ss = some (relF maps ss ss.length 0 []) := by
  unfold layout_References.f layout_Starts.f
  rw [code_f maps ss hs k (by omega)]
  simp only [Option.bind_some]
  rw [if_pos (by rw [codeF_length]; omega)]
  exact ref_l0 maps ss hm hs ss.length 0 k [] (by omega) (by simp) (by omega)

/-! Few. -/
theorem few_l0 (maps : List De) (ss : List St) : ∀ (d x k : Nat) (n : Int), x + d = 61 → d + 1 ≤ k → ∃ b, slotcoderef10_Few.l0 k n x maps ss = some b ∧ (b = true → maps.length ≤ 300 ∧ ss.length ≤ 60)
  | d, x, k, n, h, hk => by
    obtain ⟨k, rfl⟩ : ∃ m, k = m + 1 := ⟨k - 1, by omega⟩
    rw [slotcoderef10_Few.l0]
    have fin : ∃ b, (if (maps.length : Int) ≤ 300 then (if (ss.length : Int) ≤ 60 then (some (decide (n ≤ 200))) else (some false)) else (some false)) = some b ∧ (b = true → maps.length ≤ 300 ∧ ss.length ≤ 60) := by
      by_cases h1 : (maps.length : Int) ≤ 300
      · rw [if_pos h1]
        by_cases h2 : (ss.length : Int) ≤ 60
        · rw [if_pos h2]; exact ⟨_, rfl, fun _ => by omega⟩
        · rw [if_neg h2]; exact ⟨_, rfl, fun h => by cases h⟩
      · rw [if_neg h1]; exact ⟨_, rfl, fun h => by cases h⟩
    by_cases h1 : (x : Int) < (ss.length : Int)
    · rw [if_pos h1]
      by_cases h2 : (x : Int) ≤ 60
      · rw [if_pos h2, if_pos (by omega), inc x (by omega)]
        obtain ⟨d, rfl⟩ : ∃ m, d = m + 1 := ⟨d - 1, by omega⟩
        exact few_l0 maps ss d (x + 1) k _ (by omega) (by omega)
      · rw [if_neg h2]; exact fin
    · rw [if_neg h1]; exact fin
theorem layoutPrograms_true (maps : List De) (ss : List St) : slotcodelaw12_LayoutPrograms.f 40000 maps ss = some true := by
  unfold slotcodelaw12_LayoutPrograms.f
  obtain ⟨b, hb, hbt⟩ := few_l0 maps ss 61 0 40000 0 (by omega) (by omega)
  have hf : slotcoderef10_Few.f 40000 maps ss = some b := hb
  rw [hf, alive_f 40000 (by omega)]
  cases b with
  | false => rfl
  | true =>
    obtain ⟨hm, hs⟩ := hbt rfl
    have hl := relF_length maps ss ss.length 0 []
    simp only [Option.bind_some, if_true]
    rw [code_f maps ss hs 40000 (by omega), rcode_f maps ss hs 40000 (by omega), ref_f maps ss hm hs 40000 (by omega), rref_f maps ss hm hs 40000 (by omega)]
    simp only [Option.bind_some]
    rw [same_f _ (by rw [codeF_length]; omega) 40000 (by omega), equal_f _ (by simp at hl; omega) 40000 (by omega)]
    rfl
end Go.Proofs.YtcbhmnaakoegbaaDoor.Q
namespace Go.Proofs.YtcbhmnaakoegbaaDoor.L
open Go Go.RowKit Go.Proofs.YtcbhmnaakoegbaaDoor.Ops Go.Proofs.YtcbhmnaakoegbaaDoor.Q Go.Proofs.YtcbhmnaakoegbaaDoorW.PrintWords

theorem layoutPrograms_walk (w : World) (hG : G w) (maps : List De) (ss : List St) (A0 : Option Addr) (c0 : Nat) (hc0 : maps.length ≤ c0) (hr0 : Kd.C k50 w A0 maps.length maps) (A1 : Option Addr) (c1 : Nat) (hc1 : ss.length ≤ c1) (hr1 : Kd.C k40 w A1 ss.length ss) {Q : Prop} (_ : Q) :
    Calls Tryd.prog 3 #[.agg #[.slice A0 maps.length c0, .slice A1 ss.length c1]] w fun e w' => e = .returned (.bool true) ∧ Below w.heap.size w w' :=
  slotcodelaw12_LayoutPrograms.calls 40000 A0 c0 maps A1 c1 ss true w hr0 hc0 hr1 hc1 (layoutPrograms_true maps ss) hG
end Go.Proofs.YtcbhmnaakoegbaaDoor.L
