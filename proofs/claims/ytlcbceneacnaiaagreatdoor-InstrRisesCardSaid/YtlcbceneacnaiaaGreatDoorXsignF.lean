/- Laid. -/
import Derived.Test.YtlcbceneacnaiaaGreatDoorVmThree
import Derived.KernelRfl
import Derived.Test.YtlcbceneacnaiaaGreatDoorProg
import Derived.Test.YtlcbceneacnaiaaGreatDoorXsignE
section
/- Code. -/
set_option maxRecDepth 100000
set_option linter.unusedSimpArgs false
set_option linter.unusedVariables false
namespace Go.Vm
open Go
end Go.Vm
end
section
/- Walks. -/
set_option maxRecDepth 100000
set_option linter.unusedSimpArgs false
set_option linter.unusedVariables false
namespace Go.Vm
open Go
section
variable {gl : Nat → Option PV}
set_option maxHeartbeats 4000000
theorem sJoin_l (a b : Int) : sJoin (sn a) b = sJoin a b := by rw [sJoin_sn, sn_sn, ← sJoin_sn]
theorem sJoin_0 (a : Int) : sJoin a 0 = sn a := by
  have := all1 (p := fun x => sJoin x 0 == x) (by decide +kernel) a
  rw [← sJoin_l]
  simpa using this
end
end Go.Vm
end
