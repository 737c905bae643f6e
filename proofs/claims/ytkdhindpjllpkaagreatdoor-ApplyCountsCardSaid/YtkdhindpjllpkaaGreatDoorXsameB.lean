/- Laid. -/
import Derived.Test.YtkdhindpjllpkaaGreatDoorVmThree
import Derived.KernelRfl
import Derived.Test.YtkdhindpjllpkaaGreatDoorProg
import Derived.Test.YtkdhindpjllpkaaGreatDoorXsameA
set_option linter.unusedSimpArgs false
set_option linter.unusedVariables false
set_option maxRecDepth 100000
set_option maxHeartbeats 4000000
set_option exponentiation.threshold 2000
namespace Go.Vm
open Go
section
variable {gl : Nat → Option PV}
end
end Go.Vm
