/- The laws InsnUses, InsnChecks, InsnSlots, InsnEnds as the printed functions say them: always true. -/
import Derived.Test.YtnllfppkfdnjpaaDoorPIns
import Derived.Test.YtnllfppkfdnjpaaDoorRcf
import Derived.Test.YtnllfppkfdnjpaaDoorIx3i
import Derived.Test.YtnllfppkfdnjpaaDoorIx3
import Derived.Test.YtnllfppkfdnjpaaDoorIx4h
namespace Go.Proofs.YtnllfppkfdnjpaaDoor.Q
open Go Go.RowKit Go.Proofs.YtnllfppkfdnjpaaDoor.Ops Go.Proofs.YtnllfppkfdnjpaaDoorW.PrintWords

theorem insnUses_true (o : Int) (r : Bool) : slotcodelaw04_InsnUses.f 40 o r = some true := by
  unfold slotcodelaw04_InsnUses.f slotcodelaw04_alive.f
  rw [uses40, dst_f o r, src_f, off_f o r, imm_f]
  simp
theorem insnChecks_true (o : Int) (r : Bool) (d s f i : Int) (f1 : -9223372036854775808 ≤ f) (f2 : f ≤ 9223372036854775807) (i1 : -9223372036854775808 ≤ i) (i2 : i ≤ 9223372036854775807) : slotcodelaw04_InsnChecks.f o r d s f i = some true := by
  unfold slotcodelaw04_InsnChecks.f slotcodelaw04_alive.f insn_Check.f slotcoderef04_Check.f
  rw [check_eq o r d s f i f1 f2 i1 i2]
  simp
theorem insnSlots_true (o : Int) (r : Bool) (d s f i : Int) : slotcodelaw04_InsnSlots.f 40 o r d s f i = some true := by
  unfold slotcodelaw04_InsnSlots.f slotcodelaw04_alive.f
  rw [slots_f, rslots40, writes40, rwrites40]
  simp
theorem insnEnds_true (o : Int) (r : Bool) (d s f i : Int) : slotcodelaw04_InsnEnds.f 40 o r d s f i = some true := by
  unfold slotcodelaw04_InsnEnds.f slotcodelaw04_alive.f
  rw [form_f 40 (by omega), ends_f, jumps_f]
  by_cases h : formS o = 3
  · simp [h]
  · simp [h]
end Go.Proofs.YtnllfppkfdnjpaaDoor.Q
