/- Laid. -/
import Derived.Test.YtlcbceneacnaiaaDoorCbitsE
import Derived.Test.YtlcbceneacnaiaaDoorWbitsD
import Derived.Test.YtlcbceneacnaiaaDoorLBitsAll
/- Walks. -/
set_option maxRecDepth 100000
set_option linter.unusedSimpArgs false
set_option linter.unusedVariables false
namespace Go.Vm
open Go

section
variable {gl : Nat → Option PV}
set_option maxHeartbeats 4000000
set_option exponentiation.threshold 2000
end

end Go.Vm
