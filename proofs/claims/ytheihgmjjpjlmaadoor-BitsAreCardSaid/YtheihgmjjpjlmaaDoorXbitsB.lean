/- Laid. -/
import Derived.Test.YtheihgmjjpjlmaaDoorVmThree
import Derived.KernelRfl
import Derived.Test.YtheihgmjjpjlmaaDoorProg
import Derived.Test.YtheihgmjjpjlmaaDoorXbitsA
section
/- Code. -/
set_option maxRecDepth 100000
set_option linter.unusedSimpArgs false
set_option linter.unusedVariables false
namespace Go.Vm
open Go
end Go.Vm
end
section
/- Walks. -/
set_option maxRecDepth 100000
set_option linter.unusedSimpArgs false
set_option linter.unusedVariables false
namespace Go.Vm
open Go
section
variable {gl : Nat → Option PV}
set_option maxHeartbeats 4000000
end
end Go.Vm
end
