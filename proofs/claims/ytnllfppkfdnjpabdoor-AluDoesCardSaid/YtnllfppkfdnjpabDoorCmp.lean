/- alu.compute: the operation with an index. -/
import Derived.Test.YtnllfppkfdnjpabDoorJx1i
import Derived.Laws.Rows
namespace Go.Proofs.YtnllfppkfdnjpabDoor.Q
open Go Go.RowKit Go.Proofs.YtnllfppkfdnjpabDoor.Ops Go.Proofs.YtnllfppkfdnjpabDoorW.PrintWords

theorem run_store_fn {P : Program} {w : World} {a : Addr} {m : Mode} (f : Fn) (x y : Array Value) : (store a (.func f x y) m).run P w = stored P w a (.func f x y) m := run_store P w a _ m rfl
attribute [local go_sem] run_store_fn
theorem below_of_drawn {w w' : World} (h : Drawn0 w w') : Below w.heap.size w w' := by
  obtain ⟨k, rfl⟩ := h
  exact pw_below_drewN (Below.refl _ _) _
abbrev fv (n : Nat) : Value := .func (.func n) #[] #[]

/-! 32 bits. -/
def bin32V : Array Value := #[fv 88, fv 89, fv 90, fv 91, fv 92, fv 93, fv 94, fv 95, fv 96, fv 97, fv 98, fv 99, fv 100, fv 102]
theorem bin32_info : (Tryd.prog.info? 100).map (·.size) = some bin32V.size := by kernel_rfl
set_option maxRecDepth 100000 in
set_option maxHeartbeats 4000000 in
theorem bin32_any (w : World) : Calls Tryd.prog 75 #[] w fun e w' => e = .returned (.agg bin32V) ∧ Below w.heap.size w w' := by
  go_enter Tryd.func75, Tryd.ntmps75
  go_wp2_with fail
  refine bodyPost_ret (results_cell_row (P := Tryd.prog) (p := 0) rfl _ _ w.heap.size 100 bin32V (0, 0) _ rfl (heap_alloc_new w _) Tryd.underlying100 rfl bin32_info) rfl ?_
  exact ⟨rfl, (Below.refl _ w).alloc (Nat.le_refl _) _⟩
theorem field32 (k : Nat) (w : World) : (Instr.field 99 (.agg #[fv k]) 0).run Tryd.prog w = .ok (fv k) w := by kernel_rfl
def c32 (i a b n : Int) : Option Int :=
  if i = 0 then alu_binaries_uint32_1.f a b n else if i = 1 then alu_binaries_uint32_2.f a b n else if i = 2 then alu_binaries_uint32_3.f a b n else if i = 3 then alu_quotient_uint32.f a b n else if i = 4 then alu_binaries_uint32_4.f a b n else if i = 5 then alu_binaries_uint32_5.f a b n else if i = 6 then alu_binaries_uint32_6.f a b n else if i = 7 then alu_binaries_uint32_7.f a b n else if i = 8 then alu_remainder_uint32.f a b n else if i = 9 then alu_binaries_uint32_8.f a b n else if i = 10 then alu_binaries_uint32_9.f a b n else if i = 11 then alu_binaries_uint32_10.f a b n else if i = 12 then alu_binaries_uint32_11.f a b n else if i = 13 then alu_binaries_uint32_12.f a b n else none
def alu_compute_uint32.f (i a b n : Int) : Option Int := (c32 i (a % 4294967296) (b % 4294967296) n).bind fun r => some (IntKind.u64.wrap r)
set_option maxRecDepth 100000 in
set_option maxHeartbeats 8000000 in
theorem alu_compute_uint32.calls (i a b n r : Int) (w : World) (h : alu_compute_uint32.f i a b n = some r) (hG : GG w) : Calls Tryd.prog 42 #[.int .i64 i, .int .u64 a, .int .u64 b, .int .i64 n] w fun e w' => e = .returned (.int .u64 r) ∧ Below w.heap.size w w' := by
  unfold alu_compute_uint32.f at h
  obtain ⟨q, hq, h⟩ := Option.bind_eq_some_iff.1 h
  obtain rfl := Option.some.inj h
  clear h
  go_enter Tryd.func42, Tryd.ntmps42
  go_wp2_with fail
  refine (bin32_any _).mono ?_
  rintro e w1 ⟨rfl, hb⟩
  have hg1 := G_at hG hb
  have hfl := field32
  unfold c32 at hq
  by_cases h0 : i = 0
  · subst h0
    simp only [if_true] at hq
    have hix : ∀ w, (Instr.index 100 (.agg bin32V) (.int .i64 0)).run Tryd.prog w = .ok (.agg #[fv 88]) w := fun _ => by kernel_rfl
    go_wp2_with fail
    refine (alu_binaries_uint32_1.calls _ _ _ q _ hq).mono ?_
    rintro e w2 ⟨rfl, hb2⟩
    have hB := hb.trans ((below_of_drawn hb2).mono hb.size)
    clear hb hb2 hq
    go_wp2_with fail
    go_ret
    exact ⟨rfl, hB⟩
  · rw [if_neg h0] at hq
    by_cases h1 : i = 1
    · subst h1
      simp only [Int.reduceEq, if_false, if_true] at hq
      have hix : ∀ w, (Instr.index 100 (.agg bin32V) (.int .i64 1)).run Tryd.prog w = .ok (.agg #[fv 89]) w := fun _ => by kernel_rfl
      go_wp2_with fail
      refine (alu_binaries_uint32_2.calls _ _ _ q _ hq).mono ?_
      rintro e w2 ⟨rfl, hb2⟩
      have hB := hb.trans ((below_of_drawn hb2).mono hb.size)
      clear hb hb2 hq
      go_wp2_with fail
      go_ret
      exact ⟨rfl, hB⟩
    · rw [if_neg h1] at hq
      by_cases h2 : i = 2
      · subst h2
        simp only [Int.reduceEq, if_false, if_true] at hq
        have hix : ∀ w, (Instr.index 100 (.agg bin32V) (.int .i64 2)).run Tryd.prog w = .ok (.agg #[fv 90]) w := fun _ => by kernel_rfl
        go_wp2_with fail
        refine (alu_binaries_uint32_3.calls _ _ _ q _ hq).mono ?_
        rintro e w2 ⟨rfl, hb2⟩
        have hB := hb.trans ((below_of_drawn hb2).mono hb.size)
        clear hb hb2 hq
        go_wp2_with fail
        go_ret
        exact ⟨rfl, hB⟩
      · rw [if_neg h2] at hq
        by_cases h3 : i = 3
        · subst h3
          simp only [Int.reduceEq, if_false, if_true] at hq
          have hix : ∀ w, (Instr.index 100 (.agg bin32V) (.int .i64 3)).run Tryd.prog w = .ok (.agg #[fv 91]) w := fun _ => by kernel_rfl
          go_wp2_with fail
          refine (alu_quotient_uint32.calls _ _ _ q _ hq).mono ?_
          rintro e w2 ⟨rfl, hb2⟩
          have hB := hb.trans ((below_of_drawn hb2).mono hb.size)
          clear hb hb2 hq
          go_wp2_with fail
          go_ret
          exact ⟨rfl, hB⟩
        · rw [if_neg h3] at hq
          by_cases h4 : i = 4
          · subst h4
            simp only [Int.reduceEq, if_false, if_true] at hq
            have hix : ∀ w, (Instr.index 100 (.agg bin32V) (.int .i64 4)).run Tryd.prog w = .ok (.agg #[fv 92]) w := fun _ => by kernel_rfl
            go_wp2_with fail
            refine (alu_binaries_uint32_4.calls _ _ _ q _ hq).mono ?_
            rintro e w2 ⟨rfl, hb2⟩
            have hB := hb.trans ((below_of_drawn hb2).mono hb.size)
            clear hb hb2 hq
            go_wp2_with fail
            go_ret
            exact ⟨rfl, hB⟩
          · rw [if_neg h4] at hq
            by_cases h5 : i = 5
            · subst h5
              simp only [Int.reduceEq, if_false, if_true] at hq
              have hix : ∀ w, (Instr.index 100 (.agg bin32V) (.int .i64 5)).run Tryd.prog w = .ok (.agg #[fv 93]) w := fun _ => by kernel_rfl
              go_wp2_with fail
              refine (alu_binaries_uint32_5.calls _ _ _ q _ hq).mono ?_
              rintro e w2 ⟨rfl, hb2⟩
              have hB := hb.trans ((below_of_drawn hb2).mono hb.size)
              clear hb hb2 hq
              go_wp2_with fail
              go_ret
              exact ⟨rfl, hB⟩
            · rw [if_neg h5] at hq
              by_cases h6 : i = 6
              · subst h6
                simp only [Int.reduceEq, if_false, if_true] at hq
                have hix : ∀ w, (Instr.index 100 (.agg bin32V) (.int .i64 6)).run Tryd.prog w = .ok (.agg #[fv 94]) w := fun _ => by kernel_rfl
                go_wp2_with fail
                refine (alu_binaries_uint32_6.calls _ _ _ q _ hq).mono ?_
                rintro e w2 ⟨rfl, hb2⟩
                have hB := hb.trans ((below_of_drawn hb2).mono hb.size)
                clear hb hb2 hq
                go_wp2_with fail
                go_ret
                exact ⟨rfl, hB⟩
              · rw [if_neg h6] at hq
                by_cases h7 : i = 7
                · subst h7
                  simp only [Int.reduceEq, if_false, if_true] at hq
                  have hix : ∀ w, (Instr.index 100 (.agg bin32V) (.int .i64 7)).run Tryd.prog w = .ok (.agg #[fv 95]) w := fun _ => by kernel_rfl
                  go_wp2_with fail
                  refine (alu_binaries_uint32_7.calls _ _ _ q _ hq).mono ?_
                  rintro e w2 ⟨rfl, hb2⟩
                  have hB := hb.trans ((below_of_drawn hb2).mono hb.size)
                  clear hb hb2 hq
                  go_wp2_with fail
                  go_ret
                  exact ⟨rfl, hB⟩
                · rw [if_neg h7] at hq
                  by_cases h8 : i = 8
                  · subst h8
                    simp only [Int.reduceEq, if_false, if_true] at hq
                    have hix : ∀ w, (Instr.index 100 (.agg bin32V) (.int .i64 8)).run Tryd.prog w = .ok (.agg #[fv 96]) w := fun _ => by kernel_rfl
                    go_wp2_with fail
                    refine (alu_remainder_uint32.calls _ _ _ q _ hq).mono ?_
                    rintro e w2 ⟨rfl, hb2⟩
                    have hB := hb.trans ((below_of_drawn hb2).mono hb.size)
                    clear hb hb2 hq
                    go_wp2_with fail
                    go_ret
                    exact ⟨rfl, hB⟩
                  · rw [if_neg h8] at hq
                    by_cases h9 : i = 9
                    · subst h9
                      simp only [Int.reduceEq, if_false, if_true] at hq
                      have hix : ∀ w, (Instr.index 100 (.agg bin32V) (.int .i64 9)).run Tryd.prog w = .ok (.agg #[fv 97]) w := fun _ => by kernel_rfl
                      go_wp2_with fail
                      refine (alu_binaries_uint32_8.calls _ _ _ q _ hq).mono ?_
                      rintro e w2 ⟨rfl, hb2⟩
                      have hB := hb.trans ((below_of_drawn hb2).mono hb.size)
                      clear hb hb2 hq
                      go_wp2_with fail
                      go_ret
                      exact ⟨rfl, hB⟩
                    · rw [if_neg h9] at hq
                      by_cases h10 : i = 10
                      · subst h10
                        simp only [Int.reduceEq, if_false, if_true] at hq
                        have hix : ∀ w, (Instr.index 100 (.agg bin32V) (.int .i64 10)).run Tryd.prog w = .ok (.agg #[fv 98]) w := fun _ => by kernel_rfl
                        go_wp2_with fail
                        refine (alu_binaries_uint32_9.calls _ _ _ q _ hq).mono ?_
                        rintro e w2 ⟨rfl, hb2⟩
                        have hB := hb.trans ((below_of_drawn hb2).mono hb.size)
                        clear hb hb2 hq
                        go_wp2_with fail
                        go_ret
                        exact ⟨rfl, hB⟩
                      · rw [if_neg h10] at hq
                        by_cases h11 : i = 11
                        · subst h11
                          simp only [Int.reduceEq, if_false, if_true] at hq
                          have hix : ∀ w, (Instr.index 100 (.agg bin32V) (.int .i64 11)).run Tryd.prog w = .ok (.agg #[fv 99]) w := fun _ => by kernel_rfl
                          go_wp2_with fail
                          refine (alu_binaries_uint32_10.calls _ _ _ q _ hq hg1).mono ?_
                          rintro e w2 ⟨rfl, hb2⟩
                          have hB := hb.trans (hb2.mono hb.size)
                          clear hb hb2 hq
                          go_wp2_with fail
                          go_ret
                          exact ⟨rfl, hB⟩
                        · rw [if_neg h11] at hq
                          by_cases h12 : i = 12
                          · subst h12
                            simp only [Int.reduceEq, if_false, if_true] at hq
                            have hix : ∀ w, (Instr.index 100 (.agg bin32V) (.int .i64 12)).run Tryd.prog w = .ok (.agg #[fv 100]) w := fun _ => by kernel_rfl
                            go_wp2_with fail
                            refine (alu_binaries_uint32_11.calls _ _ _ q _ hq hg1).mono ?_
                            rintro e w2 ⟨rfl, hb2⟩
                            have hB := hb.trans (hb2.mono hb.size)
                            clear hb hb2 hq
                            go_wp2_with fail
                            go_ret
                            exact ⟨rfl, hB⟩
                          · rw [if_neg h12] at hq
                            by_cases h13 : i = 13
                            · subst h13
                              simp only [if_true] at hq
                              have hix : ∀ w, (Instr.index 100 (.agg bin32V) (.int .i64 13)).run Tryd.prog w = .ok (.agg #[fv 102]) w := fun _ => by kernel_rfl
                              go_wp2_with fail
                              refine (alu_binaries_uint32_12.calls _ _ _ q _ hq hg1).mono ?_
                              rintro e w2 ⟨rfl, hb2⟩
                              have hB := hb.trans (hb2.mono hb.size)
                              clear hb hb2 hq
                              go_wp2_with fail
                              go_ret
                              exact ⟨rfl, hB⟩
                            · rw [if_neg h13] at hq
                              cases hq

/-! 64 bits. -/
def bin64V : Array Value := #[fv 103, fv 104, fv 105, fv 106, fv 107, fv 108, fv 109, fv 110, fv 111, fv 112, fv 113, fv 114, fv 115, fv 117]
theorem bin64_info : (Tryd.prog.info? 105).map (·.size) = some bin64V.size := by kernel_rfl
set_option maxRecDepth 100000 in
set_option maxHeartbeats 4000000 in
theorem bin64_any (w : World) : Calls Tryd.prog 76 #[] w fun e w' => e = .returned (.agg bin64V) ∧ Below w.heap.size w w' := by
  go_enter Tryd.func76, Tryd.ntmps76
  go_wp2_with fail
  refine bodyPost_ret (results_cell_row (P := Tryd.prog) (p := 0) rfl _ _ w.heap.size 105 bin64V (0, 0) _ rfl (heap_alloc_new w _) Tryd.underlying105 rfl bin64_info) rfl ?_
  exact ⟨rfl, (Below.refl _ w).alloc (Nat.le_refl _) _⟩
theorem field64 (k : Nat) (w : World) : (Instr.field 104 (.agg #[fv k]) 0).run Tryd.prog w = .ok (fv k) w := by kernel_rfl
def c64 (i a b n : Int) : Option Int :=
  if i = 0 then alu_binaries_uint64_1.f a b n else if i = 1 then alu_binaries_uint64_2.f a b n else if i = 2 then alu_binaries_uint64_3.f a b n else if i = 3 then alu_quotient_uint64.f a b n else if i = 4 then alu_binaries_uint64_4.f a b n else if i = 5 then alu_binaries_uint64_5.f a b n else if i = 6 then alu_binaries_uint64_6.f a b n else if i = 7 then alu_binaries_uint64_7.f a b n else if i = 8 then alu_remainder_uint64.f a b n else if i = 9 then alu_binaries_uint64_8.f a b n else if i = 10 then alu_binaries_uint64_9.f a b n else if i = 11 then alu_binaries_uint64_10.f a b n else if i = 12 then alu_binaries_uint64_11.f a b n else if i = 13 then alu_binaries_uint64_12.f a b n else none
def alu_compute_uint64.f (i a b n : Int) : Option Int := (c64 i a b n).bind fun r => some r
set_option maxRecDepth 100000 in
set_option maxHeartbeats 8000000 in
theorem alu_compute_uint64.calls (i a b n r : Int) (w : World) (h : alu_compute_uint64.f i a b n = some r) (hG : GG w) : Calls Tryd.prog 43 #[.int .i64 i, .int .u64 a, .int .u64 b, .int .i64 n] w fun e w' => e = .returned (.int .u64 r) ∧ Below w.heap.size w w' := by
  unfold alu_compute_uint64.f at h
  obtain ⟨q, hq, h⟩ := Option.bind_eq_some_iff.1 h
  obtain rfl := Option.some.inj h
  clear h
  go_enter Tryd.func43, Tryd.ntmps43
  go_wp2_with fail
  refine (bin64_any _).mono ?_
  rintro e w1 ⟨rfl, hb⟩
  have hg1 := G_at hG hb
  have hfl := field64
  unfold c64 at hq
  by_cases h0 : i = 0
  · subst h0
    simp only [if_true] at hq
    have hix : ∀ w, (Instr.index 105 (.agg bin64V) (.int .i64 0)).run Tryd.prog w = .ok (.agg #[fv 103]) w := fun _ => by kernel_rfl
    go_wp2_with fail
    refine (alu_binaries_uint64_1.calls _ _ _ q _ hq).mono ?_
    rintro e w2 ⟨rfl, hb2⟩
    have hB := hb.trans ((below_of_drawn hb2).mono hb.size)
    clear hb hb2 hq
    go_wp2_with fail
    go_ret
    exact ⟨rfl, hB⟩
  · rw [if_neg h0] at hq
    by_cases h1 : i = 1
    · subst h1
      simp only [Int.reduceEq, if_false, if_true] at hq
      have hix : ∀ w, (Instr.index 105 (.agg bin64V) (.int .i64 1)).run Tryd.prog w = .ok (.agg #[fv 104]) w := fun _ => by kernel_rfl
      go_wp2_with fail
      refine (alu_binaries_uint64_2.calls _ _ _ q _ hq).mono ?_
      rintro e w2 ⟨rfl, hb2⟩
      have hB := hb.trans ((below_of_drawn hb2).mono hb.size)
      clear hb hb2 hq
      go_wp2_with fail
      go_ret
      exact ⟨rfl, hB⟩
    · rw [if_neg h1] at hq
      by_cases h2 : i = 2
      · subst h2
        simp only [Int.reduceEq, if_false, if_true] at hq
        have hix : ∀ w, (Instr.index 105 (.agg bin64V) (.int .i64 2)).run Tryd.prog w = .ok (.agg #[fv 105]) w := fun _ => by kernel_rfl
        go_wp2_with fail
        refine (alu_binaries_uint64_3.calls _ _ _ q _ hq).mono ?_
        rintro e w2 ⟨rfl, hb2⟩
        have hB := hb.trans ((below_of_drawn hb2).mono hb.size)
        clear hb hb2 hq
        go_wp2_with fail
        go_ret
        exact ⟨rfl, hB⟩
      · rw [if_neg h2] at hq
        by_cases h3 : i = 3
        · subst h3
          simp only [Int.reduceEq, if_false, if_true] at hq
          have hix : ∀ w, (Instr.index 105 (.agg bin64V) (.int .i64 3)).run Tryd.prog w = .ok (.agg #[fv 106]) w := fun _ => by kernel_rfl
          go_wp2_with fail
          refine (alu_quotient_uint64.calls _ _ _ q _ hq).mono ?_
          rintro e w2 ⟨rfl, hb2⟩
          have hB := hb.trans ((below_of_drawn hb2).mono hb.size)
          clear hb hb2 hq
          go_wp2_with fail
          go_ret
          exact ⟨rfl, hB⟩
        · rw [if_neg h3] at hq
          by_cases h4 : i = 4
          · subst h4
            simp only [Int.reduceEq, if_false, if_true] at hq
            have hix : ∀ w, (Instr.index 105 (.agg bin64V) (.int .i64 4)).run Tryd.prog w = .ok (.agg #[fv 107]) w := fun _ => by kernel_rfl
            go_wp2_with fail
            refine (alu_binaries_uint64_4.calls _ _ _ q _ hq).mono ?_
            rintro e w2 ⟨rfl, hb2⟩
            have hB := hb.trans ((below_of_drawn hb2).mono hb.size)
            clear hb hb2 hq
            go_wp2_with fail
            go_ret
            exact ⟨rfl, hB⟩
          · rw [if_neg h4] at hq
            by_cases h5 : i = 5
            · subst h5
              simp only [Int.reduceEq, if_false, if_true] at hq
              have hix : ∀ w, (Instr.index 105 (.agg bin64V) (.int .i64 5)).run Tryd.prog w = .ok (.agg #[fv 108]) w := fun _ => by kernel_rfl
              go_wp2_with fail
              refine (alu_binaries_uint64_5.calls _ _ _ q _ hq).mono ?_
              rintro e w2 ⟨rfl, hb2⟩
              have hB := hb.trans ((below_of_drawn hb2).mono hb.size)
              clear hb hb2 hq
              go_wp2_with fail
              go_ret
              exact ⟨rfl, hB⟩
            · rw [if_neg h5] at hq
              by_cases h6 : i = 6
              · subst h6
                simp only [Int.reduceEq, if_false, if_true] at hq
                have hix : ∀ w, (Instr.index 105 (.agg bin64V) (.int .i64 6)).run Tryd.prog w = .ok (.agg #[fv 109]) w := fun _ => by kernel_rfl
                go_wp2_with fail
                refine (alu_binaries_uint64_6.calls _ _ _ q _ hq).mono ?_
                rintro e w2 ⟨rfl, hb2⟩
                have hB := hb.trans ((below_of_drawn hb2).mono hb.size)
                clear hb hb2 hq
                go_wp2_with fail
                go_ret
                exact ⟨rfl, hB⟩
              · rw [if_neg h6] at hq
                by_cases h7 : i = 7
                · subst h7
                  simp only [Int.reduceEq, if_false, if_true] at hq
                  have hix : ∀ w, (Instr.index 105 (.agg bin64V) (.int .i64 7)).run Tryd.prog w = .ok (.agg #[fv 110]) w := fun _ => by kernel_rfl
                  go_wp2_with fail
                  refine (alu_binaries_uint64_7.calls _ _ _ q _ hq).mono ?_
                  rintro e w2 ⟨rfl, hb2⟩
                  have hB := hb.trans ((below_of_drawn hb2).mono hb.size)
                  clear hb hb2 hq
                  go_wp2_with fail
                  go_ret
                  exact ⟨rfl, hB⟩
                · rw [if_neg h7] at hq
                  by_cases h8 : i = 8
                  · subst h8
                    simp only [Int.reduceEq, if_false, if_true] at hq
                    have hix : ∀ w, (Instr.index 105 (.agg bin64V) (.int .i64 8)).run Tryd.prog w = .ok (.agg #[fv 111]) w := fun _ => by kernel_rfl
                    go_wp2_with fail
                    refine (alu_remainder_uint64.calls _ _ _ q _ hq).mono ?_
                    rintro e w2 ⟨rfl, hb2⟩
                    have hB := hb.trans ((below_of_drawn hb2).mono hb.size)
                    clear hb hb2 hq
                    go_wp2_with fail
                    go_ret
                    exact ⟨rfl, hB⟩
                  · rw [if_neg h8] at hq
                    by_cases h9 : i = 9
                    · subst h9
                      simp only [Int.reduceEq, if_false, if_true] at hq
                      have hix : ∀ w, (Instr.index 105 (.agg bin64V) (.int .i64 9)).run Tryd.prog w = .ok (.agg #[fv 112]) w := fun _ => by kernel_rfl
                      go_wp2_with fail
                      refine (alu_binaries_uint64_8.calls _ _ _ q _ hq).mono ?_
                      rintro e w2 ⟨rfl, hb2⟩
                      have hB := hb.trans ((below_of_drawn hb2).mono hb.size)
                      clear hb hb2 hq
                      go_wp2_with fail
                      go_ret
                      exact ⟨rfl, hB⟩
                    · rw [if_neg h9] at hq
                      by_cases h10 : i = 10
                      · subst h10
                        simp only [Int.reduceEq, if_false, if_true] at hq
                        have hix : ∀ w, (Instr.index 105 (.agg bin64V) (.int .i64 10)).run Tryd.prog w = .ok (.agg #[fv 113]) w := fun _ => by kernel_rfl
                        go_wp2_with fail
                        refine (alu_binaries_uint64_9.calls _ _ _ q _ hq).mono ?_
                        rintro e w2 ⟨rfl, hb2⟩
                        have hB := hb.trans ((below_of_drawn hb2).mono hb.size)
                        clear hb hb2 hq
                        go_wp2_with fail
                        go_ret
                        exact ⟨rfl, hB⟩
                      · rw [if_neg h10] at hq
                        by_cases h11 : i = 11
                        · subst h11
                          simp only [Int.reduceEq, if_false, if_true] at hq
                          have hix : ∀ w, (Instr.index 105 (.agg bin64V) (.int .i64 11)).run Tryd.prog w = .ok (.agg #[fv 114]) w := fun _ => by kernel_rfl
                          go_wp2_with fail
                          refine (alu_binaries_uint64_10.calls _ _ _ q _ hq hg1).mono ?_
                          rintro e w2 ⟨rfl, hb2⟩
                          have hB := hb.trans (hb2.mono hb.size)
                          clear hb hb2 hq
                          go_wp2_with fail
                          go_ret
                          exact ⟨rfl, hB⟩
                        · rw [if_neg h11] at hq
                          by_cases h12 : i = 12
                          · subst h12
                            simp only [Int.reduceEq, if_false, if_true] at hq
                            have hix : ∀ w, (Instr.index 105 (.agg bin64V) (.int .i64 12)).run Tryd.prog w = .ok (.agg #[fv 115]) w := fun _ => by kernel_rfl
                            go_wp2_with fail
                            refine (alu_binaries_uint64_11.calls _ _ _ q _ hq hg1).mono ?_
                            rintro e w2 ⟨rfl, hb2⟩
                            have hB := hb.trans (hb2.mono hb.size)
                            clear hb hb2 hq
                            go_wp2_with fail
                            go_ret
                            exact ⟨rfl, hB⟩
                          · rw [if_neg h12] at hq
                            by_cases h13 : i = 13
                            · subst h13
                              simp only [if_true] at hq
                              have hix : ∀ w, (Instr.index 105 (.agg bin64V) (.int .i64 13)).run Tryd.prog w = .ok (.agg #[fv 117]) w := fun _ => by kernel_rfl
                              go_wp2_with fail
                              refine (alu_binaries_uint64_12.calls _ _ _ q _ hq hg1).mono ?_
                              rintro e w2 ⟨rfl, hb2⟩
                              have hB := hb.trans (hb2.mono hb.size)
                              clear hb hb2 hq
                              go_wp2_with fail
                              go_ret
                              exact ⟨rfl, hB⟩
                            · rw [if_neg h13] at hq
                              cases hq
end Go.Proofs.YtnllfppkfdnjpabDoor.Q
