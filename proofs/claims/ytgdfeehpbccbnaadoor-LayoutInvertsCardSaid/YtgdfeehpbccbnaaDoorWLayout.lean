/- The walks of LayoutStarts, LayoutAt, LayoutDistances, LayoutTargets, LayoutInverts. -/
import Derived.Test.YtgdfeehpbccbnaaDoorPLay
namespace Go.Proofs.YtgdfeehpbccbnaaDoor.L
open Go Go.RowKit Go.Proofs.YtgdfeehpbccbnaaDoor.Ops Go.Proofs.YtgdfeehpbccbnaaDoor.Q Go.Proofs.YtgdfeehpbccbnaaDoorW.PrintWords

theorem layoutStarts_walk (w : World) (hG : G w) (A : Option Addr) (c : Nat) (l : List S48) (hc : l.length ≤ c) (hr : Kd.C k48 w A l.length l) {Q : Prop} (_ : Q) :
    Calls Tryd.prog 9 #[.slice A l.length c] w fun e w' => e = .returned (.bool true) ∧ Below w.heap.size w w' :=
  slotcodelaw12_LayoutStarts.calls 400 A c l true w hr hc (layoutStarts_true l) hG
theorem layoutAt_walk (w : World) (hG : G w) (A : Option Addr) (c : Nat) (l : List S48) (hc : l.length ≤ c) (hr : Kd.C k48 w A l.length l) {Q : Prop} (_ : Q) (a : Int) {Q1 : Prop} (_ : Q1) :
    Calls Tryd.prog 10 #[.slice A l.length c, .int .i64 a] w fun e w' => e = .returned (.bool true) ∧ Below w.heap.size w w' :=
  slotcodelaw12_LayoutAt.calls 400 A c l a true w hr hc (layoutAt_true l a) hG
theorem layoutDistances_walk (w : World) (hG : G w) (A : Option Addr) (c : Nat) (l : List S48) (hc : l.length ≤ c) (hr : Kd.C k48 w A l.length l) {Q : Prop} (_ : Q) (a : Int) {Q1 : Prop} (_ : Q1) (b : Int) {Q2 : Prop} (_ : Q2) :
    Calls Tryd.prog 11 #[.slice A l.length c, .int .i64 a, .int .i64 b] w fun e w' => e = .returned (.bool true) ∧ Below w.heap.size w w' :=
  slotcodelaw12_LayoutDistances.calls 400 A c l a b true w hr hc (layoutDistances_true l a b) hG
theorem layoutTargets_walk (w : World) (hG : G w) (A : Option Addr) (c : Nat) (l : List S48) (hc : l.length ≤ c) (hr : Kd.C k48 w A l.length l) {Q : Prop} (_ : Q) (a : Int) {Q1 : Prop} (_ : Q1) (b : Int) {Q2 : Prop} (_ : Q2) :
    Calls Tryd.prog 12 #[.slice A l.length c, .int .i64 a, .int .i64 b] w fun e w' => e = .returned (.bool true) ∧ Below w.heap.size w w' :=
  slotcodelaw12_LayoutTargets.calls 400 A c l a b true w hr hc (layoutTargets_true l a b) hG
theorem u8_range {n : Int} (h : (Lit.int .u8 n).wf = true) : 0 ≤ n ∧ n ≤ 255 := by
  simp [Lit.wf, IntKind.min, IntKind.max, IntKind.signed, IntKind.bits] at h
  omega
theorem layoutInverts_walk (w : World) (hG : G w) (A : Option Addr) (c : Nat) (l : List S48) (hc : l.length ≤ c) (hr : Kd.C k48 w A l.length l) {Q : Prop} (_ : Q) (a : Int) (ha : (Lit.int .u8 a).wf = true) (b : Int) (hb : (Lit.int .u8 b).wf = true) :
    Calls Tryd.prog 13 #[.slice A l.length c, .int .u8 a, .int .u8 b] w fun e w' => e = .returned (.bool true) ∧ Below w.heap.size w w' :=
  slotcodelaw12_LayoutInverts.calls (l.length + 300) A c l a b true w hr hc (layoutInverts_true l hr.2.1 a b (u8_range ha) (u8_range hb)) hG
end Go.Proofs.YtgdfeehpbccbnaaDoor.L
