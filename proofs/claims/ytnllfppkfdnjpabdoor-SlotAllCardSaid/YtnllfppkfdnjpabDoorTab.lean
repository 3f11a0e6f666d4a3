/- The table of operations as data, and what ops.table does: it lays one block and hands back the whole table. -/
import Derived.Test.YtnllfppkfdnjpabDoorProg
import Derived.Test.YtnllfppkfdnjpabDoorEv
import Derived.Laws.Rows
import Derived.Laws.Tables
import Derived.WalkKit
namespace Go.Proofs.YtnllfppkfdnjpabDoor.Ops
open Go Go.Proofs.YtnllfppkfdnjpabDoor.Ev
def rows : List (List UInt8 × Int × Int × Int × Int × Int × Int) := [
  ([97, 100, 100, 54, 52], 0, 64, 7, 0, 0, 0),
  ([115, 117, 98, 54, 52], 0, 64, 23, 0, 0, 0),
  ([109, 117, 108, 54, 52], 0, 64, 39, 0, 0, 0),
  ([100, 105, 118, 54, 52], 0, 64, 55, 0, 0, 0),
  ([111, 114, 54, 52], 0, 64, 71, 0, 0, 0),
  ([97, 110, 100, 54, 52], 0, 64, 87, 0, 0, 0),
  ([108, 115, 104, 54, 52], 0, 64, 103, 0, 0, 0),
  ([114, 115, 104, 54, 52], 0, 64, 119, 0, 0, 0),
  ([109, 111, 100, 54, 52], 0, 64, 151, 0, 0, 0),
  ([120, 111, 114, 54, 52], 0, 64, 167, 0, 0, 0),
  ([109, 111, 118, 54, 52], 0, 64, 183, 0, 0, 0),
  ([97, 114, 115, 104, 54, 52], 0, 64, 199, 0, 0, 0),
  ([115, 100, 105, 118, 54, 52], 0, 64, 55, 0, 1, 0),
  ([115, 109, 111, 100, 54, 52], 0, 64, 151, 0, 1, 0),
  ([97, 100, 100, 51, 50], 0, 32, 4, 0, 0, 0),
  ([115, 117, 98, 51, 50], 0, 32, 20, 0, 0, 0),
  ([109, 117, 108, 51, 50], 0, 32, 36, 0, 0, 0),
  ([100, 105, 118, 51, 50], 0, 32, 52, 0, 0, 0),
  ([111, 114, 51, 50], 0, 32, 68, 0, 0, 0),
  ([97, 110, 100, 51, 50], 0, 32, 84, 0, 0, 0),
  ([108, 115, 104, 51, 50], 0, 32, 100, 0, 0, 0),
  ([114, 115, 104, 51, 50], 0, 32, 116, 0, 0, 0),
  ([109, 111, 100, 51, 50], 0, 32, 148, 0, 0, 0),
  ([120, 111, 114, 51, 50], 0, 32, 164, 0, 0, 0),
  ([109, 111, 118, 51, 50], 0, 32, 180, 0, 0, 0),
  ([97, 114, 115, 104, 51, 50], 0, 32, 196, 0, 0, 0),
  ([115, 100, 105, 118, 51, 50], 0, 32, 52, 0, 1, 0),
  ([115, 109, 111, 100, 51, 50], 0, 32, 148, 0, 1, 0),
  ([110, 101, 103, 54, 52], 1, 64, 135, 0, 0, 0),
  ([110, 101, 103, 51, 50], 1, 32, 132, 0, 0, 0),
  ([109, 111, 118, 115, 98, 54, 52], 2, 64, 191, 0, 8, 0),
  ([109, 111, 118, 115, 104, 54, 52], 2, 64, 191, 0, 16, 0),
  ([109, 111, 118, 115, 119, 54, 52], 2, 64, 191, 0, 32, 0),
  ([109, 111, 118, 115, 98, 51, 50], 2, 32, 188, 0, 8, 0),
  ([109, 111, 118, 115, 104, 51, 50], 2, 32, 188, 0, 16, 0),
  ([108, 101, 49, 54], 1, 16, 212, 0, 0, 16),
  ([108, 101, 51, 50], 1, 32, 212, 0, 0, 32),
  ([108, 101, 54, 52], 1, 64, 212, 0, 0, 64),
  ([98, 101, 49, 54], 1, 16, 220, 0, 0, 16),
  ([98, 101, 51, 50], 1, 32, 220, 0, 0, 32),
  ([98, 101, 54, 52], 1, 64, 220, 0, 0, 64),
  ([98, 115, 119, 97, 112, 49, 54], 1, 16, 215, 0, 0, 16),
  ([98, 115, 119, 97, 112, 51, 50], 1, 32, 215, 0, 0, 32),
  ([98, 115, 119, 97, 112, 54, 52], 1, 64, 215, 0, 0, 64),
  ([106, 97], 3, 0, 5, 0, 0, 0),
  ([106, 101, 113], 4, 64, 21, 0, 0, 0),
  ([106, 103, 116], 4, 64, 37, 0, 0, 0),
  ([106, 103, 101], 4, 64, 53, 0, 0, 0),
  ([106, 115, 101, 116], 4, 64, 69, 0, 0, 0),
  ([106, 110, 101], 4, 64, 85, 0, 0, 0),
  ([106, 115, 103, 116], 4, 64, 101, 0, 0, 0),
  ([106, 115, 103, 101], 4, 64, 117, 0, 0, 0),
  ([106, 108, 116], 4, 64, 165, 0, 0, 0),
  ([106, 108, 101], 4, 64, 181, 0, 0, 0),
  ([106, 115, 108, 116], 4, 64, 197, 0, 0, 0),
  ([106, 115, 108, 101], 4, 64, 213, 0, 0, 0),
  ([106, 101, 113, 51, 50], 4, 32, 22, 0, 0, 0),
  ([106, 103, 116, 51, 50], 4, 32, 38, 0, 0, 0),
  ([106, 103, 101, 51, 50], 4, 32, 54, 0, 0, 0),
  ([106, 115, 101, 116, 51, 50], 4, 32, 70, 0, 0, 0),
  ([106, 110, 101, 51, 50], 4, 32, 86, 0, 0, 0),
  ([106, 115, 103, 116, 51, 50], 4, 32, 102, 0, 0, 0),
  ([106, 115, 103, 101, 51, 50], 4, 32, 118, 0, 0, 0),
  ([106, 108, 116, 51, 50], 4, 32, 166, 0, 0, 0),
  ([106, 108, 101, 51, 50], 4, 32, 182, 0, 0, 0),
  ([106, 115, 108, 116, 51, 50], 4, 32, 198, 0, 0, 0),
  ([106, 115, 108, 101, 51, 50], 4, 32, 214, 0, 0, 0),
  ([99, 97, 108, 108], 5, 0, 133, 0, 0, 0),
  ([101, 120, 105, 116], 6, 0, 149, 0, 0, 0),
  ([108, 100, 120, 98], 7, 8, 113, 0, 0, 0),
  ([108, 100, 120, 104], 7, 16, 105, 0, 0, 0),
  ([108, 100, 120, 119], 7, 32, 97, 0, 0, 0),
  ([108, 100, 120, 100, 119], 7, 64, 121, 0, 0, 0),
  ([108, 100, 120, 115, 98], 7, 8, 145, 0, 0, 0),
  ([108, 100, 120, 115, 104], 7, 16, 137, 0, 0, 0),
  ([108, 100, 120, 115, 119], 7, 32, 129, 0, 0, 0),
  ([115, 116, 98], 8, 8, 114, 0, 0, 0),
  ([115, 116, 104], 8, 16, 106, 0, 0, 0),
  ([115, 116, 119], 8, 32, 98, 0, 0, 0),
  ([115, 116, 100, 119], 8, 64, 122, 0, 0, 0),
  ([115, 116, 120, 98], 9, 8, 115, 0, 0, 0),
  ([115, 116, 120, 104], 9, 16, 107, 0, 0, 0),
  ([115, 116, 120, 119], 9, 32, 99, 0, 0, 0),
  ([115, 116, 120, 100, 119], 9, 64, 123, 0, 0, 0),
  ([108, 100, 100, 119], 10, 64, 24, 0, 0, 0),
  ([108, 100, 109, 97, 112], 11, 64, 24, 1, 0, 0)]

def bytes (l : List UInt8) : ByteArray := ⟨l.toArray⟩
abbrev Row : Type := List UInt8 × Int × Int × Int × Int × Int × Int
def cellsOf (r : Row) : List Value :=
  [.string (bytes r.1), .int .i64 r.2.1, .int .i64 r.2.2.1, .int .u8 r.2.2.2.1, .int .i64 r.2.2.2.2.1, .int .i64 r.2.2.2.2.2.1, .int .i64 r.2.2.2.2.2.2]
def tableCells : Array Value := (rows.flatMap cellsOf).toArray
def tableV : Value := .agg tableCells

noncomputable def tabOps : Array Oper := match Tryd.f85.body with
  | some (.seq _ (.seq (.region _ ops _) _)) => ops
  | _ => #[]
noncomputable def tabAl : Array Oper := match Tryd.f85.body with
  | some (.seq (.region _ ops _) _) => ops
  | _ => #[]
theorem tab_body : Tryd.f85.body = some (.seq (.region 0 tabAl false) (.seq (.region 1 tabOps false) .ret)) := by kernel_rfl
noncomputable def tabPre : List Oper := tabOps.toList.take 87
noncomputable def tabLast : Oper := (tabOps.toList.drop 87).headD default
theorem tab_split : tabOps.toList = tabPre ++ [tabLast] := by kernel_rfl
def noCall : FuncId → Array Value → Option Value := fun _ _ => none
theorem noCall_good (P : Program) : Ev.Good P noCall := fun _ _ _ h => by cases h

theorem opsPure_pre {P : Program} {call : FuncId → Array Value → Option Value} {all : Array Oper} (hc : Ev.Good P call) {Q : Exit → Act → World → Prop} {w : World} {l2 : List Oper} :
    ∀ (l : List Oper) (a a' : Act), opsPure P call all l a = some a' → wpList P all Q l2 a' w → wpList P all Q (l ++ l2) a w
  | [], a, a', h, hq => by
    simp only [opsPure, Option.some.injEq] at h
    subst h
    exact hq
  | o :: rest, a, a', h, hq => by
    unfold opsPure at h
    rw [List.cons_append]
    unfold wpList
    split at h
    · rename_i hw
      rw [if_pos hw]
      left
      unfold Oper.wp
      split at h
      · rename_i v hv
        rw [semPure_run _ _ hv w]
        exact opsPure_pre hc rest _ _ h hq
      · rename_i hv
        rw [semPure_run _ _ hv w]
        exact opsPure_pre hc rest _ _ h hq
      · rename_i f args hv
        rw [semPure_run _ _ hv w]
        split at h
        · rename_i v hcall
          rw [Oper.upon_enter]
          refine (hc f args v hcall w).mono ?_
          rintro e w' ⟨rfl, rfl⟩
          exact opsPure_pre hc rest _ _ h hq
        · cases h
      · cases h
    · rename_i hw
      rw [if_neg hw]
      exact opsPure_pre hc rest _ _ h hq

def act0 (b : Nat) : Act := { tmps := (#[.pointer (some ⟨b, 0, none⟩)] : Array Value) ++ Array.replicate 87 undef, defers := [] }
theorem tab_pure (b : Nat) : (opsPure Tryd.prog noCall tabOps tabPre (act0 b)).map (fun a => (a.eval (.tmp 0), a.eval (.tmp 87), a.tmps[0]?, a.defers)) = some (.pointer (some ⟨b, 0, none⟩), tableV, some (.pointer (some ⟨b, 0, none⟩)), []) := by kernel_rfl
noncomputable def zeroCells : Array Value := ((Tryd.prog.info? 120).bind (·.zero)).elim #[] Value.cells
theorem al_op : tabAl = #[{ dst := some 0, op := .alloc 120, type := 0, pos := (tabAl.getD 0 default).pos, after := #[], guard := none }] := by kernel_rfl
theorem info : (Tryd.prog.info? 120).map (·.size) = some tableCells.size := by kernel_rfl
theorem zsize : zeroCells.size = tableCells.size := by kernel_rfl
theorem one : tableCells.all (·.oneCell') = true := by kernel_rfl
theorem under : Tryd.prog.underlying 120 = some (.array 86 95) := by kernel_rfl
theorem last_op : tabLast.op = .store 120 (.tmp 0) (.tmp 87) := by kernel_rfl
theorem last_guard : tabLast.guard = none := by kernel_rfl
theorem last_dst : tabLast.dst = none := by kernel_rfl

theorem alloc_setRow (w : World) (c c' : Array Value) (t : TypeId) : (w.alloc (.cells c t)).setRow w.heap.size c' = w.alloc (.cells c' t) := by
  unfold World.setRow World.alloc
  congr 1
  apply Array.ext
  · simp
  · intro k h1 h2
    simp only [Array.size_push] at h2
    simp only [Array.getElem_modify]
    by_cases hk : w.heap.size = k
    · subst hk
      simp
    · rw [if_neg hk, Array.getElem_push_lt (by omega), Array.getElem_push_lt (by omega)]

theorem table_any (w : World) : Calls Tryd.prog 85 #[] w fun e w' => e = .returned tableV ∧ w.alloc (.cells tableCells 120) = w' := by
  refine calls_of_wp Tryd.func85 tab_body ?_
  refine wp_seq (wp_region_list ?_)
  rw [al_op]
  refine wpList_plain rfl fun K hK => ?_
  unfold Oper.wp
  have e0 : ((execOp ({ tmps := #[] ++ Array.replicate (Tryd.f85.ntmps - (#[] : Array Value).size) undef, defers := [] } : Act).eval { dst := some 0, op := .alloc 120, type := 0, pos := (tabAl.getD 0 default).pos, after := #[], guard := none }).run Tryd.prog w) = .ok (.value (.pointer (some ⟨w.heap.size, 0, none⟩))) (w.alloc (.cells zeroCells 120)) := by kernel_rfl
  rw [e0, Oper.upon_value]
  refine hK _ _ ?_
  refine wpList_nil ?_
  show (Code.seq _ _).wp _ _ _ _
  refine wp_seq (wp_region_list ?_)
  rw [tab_split]
  have ea : (({ tmps := #[] ++ Array.replicate (Tryd.f85.ntmps - (#[] : Array Value).size) undef, defers := [] } : Act).put (some 0) (.pointer (some ⟨w.heap.size, 0, none⟩))) = act0 w.heap.size := by kernel_rfl
  rw [ea]
  have hp := tab_pure w.heap.size
  cases h1 : opsPure Tryd.prog noCall tabOps tabPre (act0 w.heap.size) with
  | none => rw [h1] at hp; cases hp
  | some a1 =>
    rw [h1] at hp
    simp only [Option.map_some, Option.some.injEq, Prod.mk.injEq] at hp
    obtain ⟨h0, h87, hs, hd⟩ := hp
    refine opsPure_pre (noCall_good _) _ _ _ h1 ?_
    have hg : (w.alloc (.cells zeroCells 120)).heap[w.heap.size]? = some (.cells zeroCells 120 (0, 0)) := heap_alloc_new w _
    refine wpList_store_row last_guard _ _ _ last_op w.heap.size tableCells h0 h87 120 zeroCells hg info zsize one ?_
    rw [alloc_setRow, last_dst]
    refine wpList_nil ?_
    show Code.ret.wp _ _ _ _
    refine wp_ret ?_
    refine ⟨hd, tableV, ?_, rfl, rfl⟩
    exact results_cell_row (P := Tryd.prog) (p := 0) rfl _ _ w.heap.size 120 tableCells (0, 0) _ h0 (heap_alloc_new w _) under rfl info
end Go.Proofs.YtnllfppkfdnjpabDoor.Ops
