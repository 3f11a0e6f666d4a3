/- The functions of package ops (and the reference's Code) in the form in which the printed texts use their callees: a Lean function and its contract. -/
import Derived.Test.YtgdfeehpbccbnaaDoorRCode
import Derived.Test.YtgdfeehpbccbnaaDoorFmt
namespace Go.Proofs.YtgdfeehpbccbnaaDoor.Q
open Go Go.RowKit Go.Proofs.YtgdfeehpbccbnaaDoor.Ops

abbrev GG (w : World) : Prop := Go.Proofs.YtgdfeehpbccbnaaDoor.Ops.G w
theorem G_at {w w' : World} (h : GG w) (hb : Below w.heap.size w w') : GG w' := h.below' hb

def ops_Name.f (a0 : Int) : Option ByteArray := some (nameS a0)
theorem ops_Name.calls (a0 : Int) (r : ByteArray) (w : World) (h : ops_Name.f a0 = some r) (hG : GG w) : Calls Tryd.prog 16 #[.int .i64 a0] w fun e w' => e = .returned (.string r) ∧ Below w.heap.size w w' := by
  obtain rfl := Option.some.inj h
  exact name_any a0 w hG
def ops_Form.f (a0 : Int) : Option Int := some (formS a0)
theorem ops_Form.calls (a0 : Int) (r : Int) (w : World) (h : ops_Form.f a0 = some r) (hG : GG w) : Calls Tryd.prog 18 #[.int .i64 a0] w fun e w' => e = .returned (.int .i64 r) ∧ Below w.heap.size w w' := by
  obtain rfl := Option.some.inj h
  exact form_any a0 w hG
def ops_Bits.f (a0 : Int) : Option Int := some (bitsS a0)
theorem ops_Bits.calls (a0 : Int) (r : Int) (w : World) (h : ops_Bits.f a0 = some r) (hG : GG w) : Calls Tryd.prog 20 #[.int .i64 a0] w fun e w' => e = .returned (.int .i64 r) ∧ Below w.heap.size w w' := by
  obtain rfl := Option.some.inj h
  exact bits_any a0 w hG
def ops_Fixed.f (a0 : Int) : Option (Int × Int × Int) := some (srcS a0, offS a0, immS a0)
theorem ops_Fixed.calls (a0 : Int) (r1 r2 r3 : Int) (w : World) (h : ops_Fixed.f a0 = some (r1, r2, r3)) (hG : GG w) : Calls Tryd.prog 27 #[.int .i64 a0] w fun e w' => e = .returned (.tuple #[.int .i64 r1, .int .i64 r2, .int .i64 r3]) ∧ Below w.heap.size w w' := by
  have h := Option.some.inj h
  simp only [Prod.mk.injEq] at h
  obtain ⟨rfl, rfl, rfl⟩ := h
  exact fixed_any a0 w hG
def ops_Code.f (a0 : Int) (a1 : Bool) : Option (Int × Bool) := some (codeF a0 a1)
theorem ops_Code.calls (a0 : Int) (a1 : Bool) (r1 : Int) (r2 : Bool) (w : World) (h : ops_Code.f a0 a1 = some (r1, r2)) (hG : GG w) : Calls Tryd.prog 23 #[.int .i64 a0, .bool a1] w fun e w' => e = .returned (.tuple #[.int .u8 r1, .bool r2]) ∧ Below w.heap.size w w' := by
  have h := Option.some.inj h
  have e1 : r1 = (codeF a0 a1).1 := congrArg Prod.fst h.symm
  have e2 : r2 = (codeF a0 a1).2 := congrArg Prod.snd h.symm
  rw [e1, e2]
  exact code_any a0 a1 w hG
def slotcoderef03_Code.f (a0 : Int) (a1 : Bool) : Option (Int × Bool) := some (codeF a0 a1)
theorem slotcoderef03_Code.calls (a0 : Int) (a1 : Bool) (r1 : Int) (r2 : Bool) (w : World) (h : slotcoderef03_Code.f a0 a1 = some (r1, r2)) : Calls Tryd.prog 24 #[.int .i64 a0, .bool a1] w fun e w' => e = .returned (.tuple #[.int .u8 r1, .bool r2]) ∧ Below w.heap.size w w' := by
  have h := Option.some.inj h
  have e1 : r1 = (codeF a0 a1).1 := congrArg Prod.fst h.symm
  have e2 : r2 = (codeF a0 a1).2 := congrArg Prod.snd h.symm
  rw [e1, e2]
  exact RC.rcode_any a0 a1 w
def ops_Identify.f (a0 a1 a2 a3 : Int) : Option (Int × Bool × Bool) := some (identF a0 a1 a2 a3)
theorem ops_Identify.calls (a0 a1 a2 a3 : Int) (r1 : Int) (r2 r3 : Bool) (w : World) (h : ops_Identify.f a0 a1 a2 a3 = some (r1, r2, r3)) (hG : GG w) : Calls Tryd.prog 25 #[.int .u8 a0, .int .i64 a1, .int .i64 a2, .int .i64 a3] w fun e w' =>
    e = .returned (.tuple #[.int .i64 r1, .bool r2, .bool r3]) ∧ Below w.heap.size w w' := by
  have h := Option.some.inj h
  have e1 : r1 = (identF a0 a1 a2 a3).1 := congrArg Prod.fst h.symm
  have e2 : r2 = (identF a0 a1 a2 a3).2.1 := congrArg (fun x => x.2.1) h.symm
  have e3 : r3 = (identF a0 a1 a2 a3).2.2 := congrArg (fun x => x.2.2) h.symm
  rw [e1, e2, e3]
  exact ident_any a0 a1 a2 a3 w hG
def ops_Find.f (a0 : ByteArray) : Option (Int × Bool) := if a0.size ≤ maxLen then some (findF a0) else none
theorem ops_Find.calls (a0 : ByteArray) (r1 : Int) (r2 : Bool) (w : World) (h : ops_Find.f a0 = some (r1, r2)) (_ : GG w) : Calls Tryd.prog 22 #[.string a0] w fun e w' => e = .returned (.tuple #[.int .i64 r1, .bool r2]) ∧ Below w.heap.size w w' := by
  unfold ops_Find.f at h
  split at h
  · rename_i hs
    have h := Option.some.inj h
    have e1 : r1 = (findF a0).1 := congrArg Prod.fst h.symm
    have e2 : r2 = (findF a0).2 := congrArg Prod.snd h.symm
    rw [e1, e2]
    exact find_any a0 hs w
  · cases h
def slotcoderef01_Format.f (a0 : Int) : Option ByteArray := if -9223372036854775808 ≤ a0 ∧ a0 ≤ 9223372036854775807 then some ⟨(fmtS a0).toArray⟩ else none
theorem slotcoderef01_Format.calls (a0 : Int) (r : ByteArray) (w : World) (h : slotcoderef01_Format.f a0 = some r) : Calls Tryd.prog 64 #[.int .i64 a0] w fun e w' => e = .returned (.string r) ∧ Below w.heap.size w w' := by
  unfold slotcoderef01_Format.f at h
  split at h
  · rename_i hs
    obtain rfl := Option.some.inj h
    refine (fmt_any a0 hs.1 hs.2 w).mono ?_
    rintro e w' ⟨rfl, rfl⟩
    exact ⟨rfl, Below.refl _ _⟩
  · cases h
end Go.Proofs.YtgdfeehpbccbnaaDoor.Q
