-- PRINTED by print.py (a twelfth state) out of the translation. Not trusted: Lean checks it.
import Derived.Test.YtnllfppkfdnjpaaDoorProg
import Derived.Below
import Derived.Deep.Draws
import Derived.Deep.AppendLies
import Derived.Maps.AppendAt
import Derived.OwnWalk
import Derived.Laws.BytesArg
import Derived.Laws.MakeOwn
import Derived.Laws.OwnMore
import Derived.Deep.OwnRows
import Derived.Tactics
import Derived.Lib.ConvBytes
import Derived.Laws.Slices
import Derived.WalkKit
import Derived.KernelRfl
import Derived.RowKit3
import Derived.Deep.LoopGhost
import Derived.Deep.QuietTactic
import Derived.BigQuiet
import Derived.WideLaws
import Derived.Deep.DeepCutAuto
import Derived.Deep.CutBlock
import Derived.Deep.RegionHeld3
import Derived.Laws.Rows
import Derived.Lib.AppendStr
import Derived.ArgAppend
import Derived.Laws.IdiomCopy
import Derived.OrdersHeld
import Derived.Laws.BitsLemmas
import Derived.RowKit
import Derived.Test.YtnllfppkfdnjpaaDoorGiven
import Derived.Test.YtnllfppkfdnjpaaDoorWWords
import Derived.Test.YtnllfppkfdnjpaaDoorWLast
import Derived.Test.YtnllfppkfdnjpaaDoorWTab
import Derived.Test.YtnllfppkfdnjpaaDoorWFour
import Derived.Test.YtnllfppkfdnjpaaDoorWQPut
import Derived.Test.YtnllfppkfdnjpaaDoorWApart
import Derived.Test.YtnllfppkfdnjpaaDoorWArr
import Derived.Test.YtnllfppkfdnjpaaDoorWZeros
import Derived.Test.YtnllfppkfdnjpaaDoorWFoot
import Derived.Test.YtnllfppkfdnjpaaDoorWKept
import Derived.Test.YtnllfppkfdnjpaaDoorWShare
import Derived.Test.YtnllfppkfdnjpaaDoorWN
import Derived.Test.YtnllfppkfdnjpaaDoorWFootNe
import Derived.Test.YtnllfppkfdnjpaaDoorWAt
import Derived.Test.YtnllfppkfdnjpaaDoorWEqStruct
import Derived.Test.YtnllfppkfdnjpaaDoorWRepsOne
import Derived.Test.YtnllfppkfdnjpaaDoorWInv
import Derived.Test.YtnllfppkfdnjpaaDoorWInvWords
import Derived.Test.YtnllfppkfdnjpaaDoorWGuard
import Derived.Test.YtnllfppkfdnjpaaDoorWNEv
import Derived.Test.YtnllfppkfdnjpaaDoorWMore
namespace Go.Proofs.YtnllfppkfdnjpaaDoor.Q
open Go.RowKit Go.Proofs.YtnllfppkfdnjpaaDoorW.PrintWords Go.Proofs.YtnllfppkfdnjpaaDoorW.PrintLast Go.Proofs.YtnllfppkfdnjpaaDoorW.PrintMore
attribute [local go_sem] max2_int min2_int max_two min_two max_three min_three max_four min_four   -- for this text's walks alone
set_option linter.unusedVariables false
set_option linter.unusedSimpArgs false



def errW : Option Int → Value
  | none => .nilIface
  | some c => .iface 0 (.int .i64 c)
theorem errW_none : errW none = .nilIface := rfl
theorem errW_some (c : Int) : errW (some c) = .iface 0 (.int .i64 c) := rfl

theorem info3 : (Tryd.prog.info? 3).map (fun i => (i.zero, i.size, i.bytes)) = some (some (.int .i64 0), 1, 8) := by kernel_rfl
-- the values' own types

end Go.Proofs.YtnllfppkfdnjpaaDoor.Q
