/- Laid. -/
import Derived.Test.YtlcbceneacnaiaaDoorCflatC
import Derived.Test.YtlcbceneacnaiaaDoorWflatB
import Derived.Test.YtlcbceneacnaiaaDoorLFlatN
/- Walks. -/
set_option maxRecDepth 100000
set_option linter.unusedSimpArgs false
set_option linter.unusedVariables false
namespace Go.Vm
open Go

section
variable {gl : Nat → Option PV}

set_option maxHeartbeats 4000000 in
end

end Go.Vm
