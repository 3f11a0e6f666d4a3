/- The law LayoutPrograms holds for every input, by the package-level variables as the program's text lays them; no other condition. -/
import Derived.Test.YtcbhmnaakoegbaaDoorRows
import Derived.Test.YtcbhmnaakoegbaaDoorCards
import Derived.Test.YtcbhmnaakoegbaaDoorTie
import Derived.Test.YtcbhmnaakoegbaaDoorLaid
import Derived.Test.YtcbhmnaakoegbaaDoorOpen
import Derived.Test.YtcbhmnaakoegbaaDoorWPrograms
import Derived.Test.YtcbhmnaakoegbaaDoorOpens
import Derived.WalkKit
import Derived.ProofKit
import Derived.OpenShut
import Derived.ShutString
import Derived.ChangeOld
import Derived.Below
import Derived.SizedLaws
import Derived.LaidMore
import Derived.Stop.Joined
import Derived.SevenTiedAt
import Derived.Lib.SmallJoins
namespace Go.Proofs.YtcbhmnaakoegbaaDoor.LLayoutPrograms
open Go Go.ChangeShapes Go.WideShapes Go.ChangeAt Go.RowKit
open Go.ChangeMaps (open_string shut_string)
open Go.Proofs.YtcbhmnaakoegbaaDoor.Q Go.Proofs.YtcbhmnaakoegbaaDoorW.PrintWords
theorem o50 : Opens Tryd.prog 50 k50 (fun x => (x.f0.size ≤ maxLen) ∧ (((Lit.int .i64 x.f1).wf = true) ∧ (((Lit.int .i64 x.f2).wf = true) ∧ ((Lit.int .i64 x.f3).wf = true)))) :=
  opens_struct (fun x : S50 => (x.f0, x.f1, x.f2, x.f3)) (fun a => ⟨⟨a.1, a.2.1, a.2.2.1, a.2.2.2⟩, rfl⟩) Tryd.underlying50 (by kernel_rfl) (flds_cons rfl (by kernel_rfl) (opens_string Tryd.underlying9) (flds_cons rfl (by kernel_rfl) (opens_int Tryd.underlying3) (flds_cons rfl (by kernel_rfl) (opens_int Tryd.underlying3) (flds_one rfl (by kernel_rfl) (opens_int Tryd.underlying3)))))
theorem o38 : Opens Tryd.prog 38 k38 (fun x => ((Lit.int .i64 x.f0).wf = true) ∧ ((True) ∧ (((Lit.int .i64 x.f2).wf = true) ∧ (((Lit.int .i64 x.f3).wf = true) ∧ (((Lit.int .i64 x.f4).wf = true) ∧ ((Lit.int .i64 x.f5).wf = true)))))) :=
  opens_struct (fun x : S38 => (x.f0, x.f1, x.f2, x.f3, x.f4, x.f5)) (fun a => ⟨⟨a.1, a.2.1, a.2.2.1, a.2.2.2.1, a.2.2.2.2.1, a.2.2.2.2.2⟩, rfl⟩) Tryd.underlying38 (by kernel_rfl) (flds_cons rfl (by kernel_rfl) (opens_int Tryd.underlying3) (flds_cons rfl (by kernel_rfl) (opens_bool Tryd.underlying4) (flds_cons rfl (by kernel_rfl) (opens_int Tryd.underlying3) (flds_cons rfl (by kernel_rfl) (opens_int Tryd.underlying3) (flds_cons rfl (by kernel_rfl) (opens_int Tryd.underlying3) (flds_one rfl (by kernel_rfl) (opens_int Tryd.underlying2)))))))
theorem o40 : Opens Tryd.prog 40 k40 (fun x => (∀ xy ∈ x.f0, xy.size ≤ maxLen) ∧ ((((Lit.int .i64 x.f1.f0).wf = true) ∧ ((True) ∧ (((Lit.int .i64 x.f1.f2).wf = true) ∧ (((Lit.int .i64 x.f1.f3).wf = true) ∧ (((Lit.int .i64 x.f1.f4).wf = true) ∧ ((Lit.int .i64 x.f1.f5).wf = true)))))) ∧ ((x.f2.size ≤ maxLen) ∧ (x.f3.size ≤ maxLen)))) :=
  opens_struct (fun x : S40 => (x.f0, x.f1, x.f2, x.f3)) (fun a => ⟨⟨a.1, a.2.1, a.2.2.1, a.2.2.2⟩, rfl⟩) Tryd.underlying40 (by kernel_rfl) (flds_cons rfl (by kernel_rfl) (opens_slice Tryd.underlying36 (by kernel_rfl) (opens_string Tryd.underlying9)) (flds_cons rfl (by kernel_rfl) o38 (flds_cons rfl (by kernel_rfl) (opens_string Tryd.underlying9) (flds_one rfl (by kernel_rfl) (opens_string Tryd.underlying9)))))
structure S25 where
  f0 : (List S50)
  f1 : (List S40)
def k25 : Kd S25 := Kd.iso (Kd.pair (Kd.slice 50 k50) (Kd.slice 40 k40)) (fun x : S25 => (x.f0, x.f1))
theorem o25 : Opens Tryd.prog 25 k25 (fun x => (∀ xy ∈ x.f0, (xy.f0.size ≤ maxLen) ∧ (((Lit.int .i64 xy.f1).wf = true) ∧ (((Lit.int .i64 xy.f2).wf = true) ∧ ((Lit.int .i64 xy.f3).wf = true)))) ∧ (∀ xy ∈ x.f1, (∀ xyy ∈ xy.f0, xyy.size ≤ maxLen) ∧ ((((Lit.int .i64 xy.f1.f0).wf = true) ∧ ((True) ∧ (((Lit.int .i64 xy.f1.f2).wf = true) ∧ (((Lit.int .i64 xy.f1.f3).wf = true) ∧ (((Lit.int .i64 xy.f1.f4).wf = true) ∧ ((Lit.int .i64 xy.f1.f5).wf = true)))))) ∧ ((xy.f2.size ≤ maxLen) ∧ (xy.f3.size ≤ maxLen))))) :=
  opens_struct (fun x : S25 => (x.f0, x.f1)) (fun a => ⟨⟨a.1, a.2⟩, rfl⟩) Tryd.underlying25 (by kernel_rfl) (flds_cons rfl (by kernel_rfl) (opens_slice Tryd.underlying22 (by kernel_rfl) o50) (flds_one rfl (by kernel_rfl) (opens_slice Tryd.underlying23 (by kernel_rfl) o40)))
set_option maxRecDepth 100000 in
theorem lifted (os : Os) (started : os.Started) (H : Type) (enc : TypeId × Value → H) :
    ReturnsInHanded {} Tryd.checked os 3 .any (fun w args => (Rows.layoutProgramsSpec.pre enc Tryd.prog Tryd.f3 [] false w args ∧ laidMetH Tryd.prog laid w) ∧ sizedMet enc Tryd.prog Tryd.f3 (OpenSpec.ofChange Rows.layoutProgramsSpec) false w args)
      (Rows.layoutProgramsSpec.post enc Tryd.prog Tryd.f3 false true false false) := by
  refine returnsInHanded_of_change_and (C := Tryd.checked) (X := fun w _ => laidMetH Tryd.prog laid w) (fun _ _ _ hh h => h.of_heap hh) Tryd.own started (by kernel_rfl) Tryd.func3
    (ChangeSpec.witness_shaped (enc := enc) (C := Tryd.checked) (os := os) (X := fun w _ => laidMetH Tryd.prog laid w) false (World.doorLaid Tryd.prog 400 os) #[.agg #[.slice none 0 0, .slice none 0 0]] 8 rfl (World.shaped_of_RefB (by kernel_rfl) (by kernel_rfl)) (by kernel_rfl) (by kernel_rfl) (by kernel_rfl) (door_met os _)) ?_
  intro W base args ds gs before hval0 hW _ hsz0 hL _
  have hsz : (DataW.weightsEach Tryd.prog (Tryd.f3.params.toList ++ Rows.layoutProgramsSpec.plain.varTypes Tryd.prog) (ds ++ gs)).all (· ≤ reachBytes) = true := hsz0
  have hval : ∀ (j : Nat) t v, Tryd.f3.params[j]? = some t → args[j]? = some v → Value.okWide Tryd.prog W .any base t v := hval0
  have hW' := hW
  obtain ⟨p, q, hA0, hV, rfl, hfz, hnd⟩ := hW
  have hA : DataW.TrodAll enc Tryd.prog W 0 (fun _ => true) true Tryd.f3.params.toList args.toList ds p := hA0
  rw [Tryd.params3] at hA hval hsz
  obtain ⟨v0, vs0, d0, ds0, p0, q0, hargs, rfl, rfl, h0, r0⟩ := trodAll_cons hA
  obtain ⟨rfl, rfl, rfl⟩ := trodAll_nil r0
  obtain rfl : args = #[v0] := by cases args; simp_all
  obtain ⟨rfl, rfl⟩ := trodVars_none hV
  obtain ⟨cs0, rfl, _⟩ := okWide_struct Tryd.underlying25 (hval 0 25 v0 rfl rfl)
  have k0 := h0
  have lt0 : ∀ x ∈ p0, x.block < W.heap.size := by obtain ⟨m, hm⟩ := k0; exact DataW.trod_lt m _ _ _ hm
  obtain ⟨x0, hx0, q0⟩ := opens_value o25 h0
  obtain ⟨_, _, E0, ⟨B0_0, c0_0, rfl, hc0_0, hr0_0⟩, ⟨B0_1, c0_1, rfl, hc0_1, hr0_1⟩⟩ := hx0
  obtain rfl : cs0 = #[.slice B0_0 x0.f0.length c0_0, .slice B0_1 x0.f1.length c0_1] := by
    apply Array.toList_inj.1
    simpa [Value.cells] using E0
  clear E0
  clear hA0 hval0 hsz0 hsz
  refine (L.layoutPrograms_walk W (of_laid hL) x0.f0 x0.f1 B0_0 c0_0 hc0_0 hr0_0 B0_1 c0_1 hc0_1 hr0_1 q0).mono fun e W' ⟨he, bel⟩ => ?_
  subst he
  exact ⟨_, rfl, _, _, _, [], _, [], hW', trodAll_mk1 (shut_bool Tryd.underlying4 _), (trodAll_cons_mk (Below.trod Tryd.laidOut (by kernel_rfl) (of_decide_eq_true (by kernel_rfl)) k0 bel lt0) trodAll_mk0), rfl, bel.frame _, fun h => by cases h⟩
theorem said : Rows.LayoutProgramsSaid :=
  OpenClaim.holds_of_wide 3 Tryd.f3 rfl rfl rfl rfl rfl rfl rfl ⟨rfl, rfl, rfl, rfl, rfl⟩ rfl rfl rfl rfl rfl (by kernel_rfl) Tryd.func3 (by kernel_rfl)
    (of_decide_eq_true (by kernel_rfl)) (by unfold Func.isWrapper; first | (rw [if_pos (by decide +kernel)]; kernel_rfl) | (rw [if_neg (by decide +kernel)]; exact ⟨rfl, rfl⟩))
    (fun os started H enc _ => lifted os started H enc)
theorem card : Rows.LayoutProgramsCardSaid :=
  Claim7.holds_tied_plain_at .later [] [.data] true (true, "f932cb027c9dfcd2b16efb2474c83b8e88bd068b3d720914c9787efaff823d06") false said (fun _ h => by cases h) (by kernel_rfl) (fun _ h => by cases h) layoutPrograms_row_tie rfl ⟨rfl, rfl⟩ (by kernel_rfl) rfl
    (fun f fn hf hfn => by
      obtain rfl : f = 3 := Option.some.inj ((show Tryd.prog.funcNamed "slotcode/slotcodelaw12.LayoutPrograms" = some 3 by kernel_rfl).symm.trans hf) |>.symm
      obtain rfl : fn = Tryd.f3 := (Option.some.inj (Tryd.func3.symm.trans hfn)).symm
      exact ⟨by kernel_rfl, fun j t ht => by
        rw [Tryd.params3] at ht
        have hm : t ∈ [25] := by simpa using Array.mem_of_getElem? ht
        have hall : ([25].all fun u => !Tryd.prog.wantsStandIn u) = true := by kernel_rfl
        exact (show Tryd.prog.wantsStandIn t = false by simpa using List.all_eq_true.1 hall t hm)⟩)
    (by kernel_rfl)
end Go.Proofs.YtcbhmnaakoegbaaDoor.LLayoutPrograms
namespace Go.Proofs.YtcbhmnaakoegbaaDoor
theorem layoutPrograms_holds : Rows.LayoutProgramsCardSaid := LLayoutPrograms.card
#print axioms layoutPrograms_holds
end Go.Proofs.YtcbhmnaakoegbaaDoor
