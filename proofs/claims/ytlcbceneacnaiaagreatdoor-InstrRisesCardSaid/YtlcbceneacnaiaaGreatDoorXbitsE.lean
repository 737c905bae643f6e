/- Laid. -/
import Derived.Test.YtlcbceneacnaiaaGreatDoorVmThree
import Derived.KernelRfl
import Derived.Test.YtlcbceneacnaiaaGreatDoorProg
import Derived.Test.YtlcbceneacnaiaaGreatDoorXbitsD
import Derived.Test.YtlcbceneacnaiaaGreatDoorLBitsAll
section
/- Code. -/
set_option maxRecDepth 100000
set_option linter.unusedSimpArgs false
set_option linter.unusedVariables false
namespace Go.Vm
open Go
end Go.Vm
end
section
/- Walks. -/
set_option maxRecDepth 100000
set_option linter.unusedSimpArgs false
set_option linter.unusedVariables false
namespace Go.Vm
open Go
section
variable {gl : Nat → Option PV}
set_option maxHeartbeats 4000000
set_option exponentiation.threshold 2000
end
end Go.Vm
end
