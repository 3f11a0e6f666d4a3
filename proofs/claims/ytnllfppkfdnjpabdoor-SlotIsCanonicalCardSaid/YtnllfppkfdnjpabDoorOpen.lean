/- Arguments that are arrays of two ints, opened. -/
import Derived.Test.YtnllfppkfdnjpabDoorProg
import Derived.WalkKit
import Derived.ProofKit
import Derived.OpenShut
import Derived.Lib.SmallJoins
