/- Laid. -/
import Derived.Test.YtlcbceneacnaiaaDoorCbase
import Derived.Test.YtlcbceneacnaiaaDoorVmThree
/- Walks. -/
set_option maxRecDepth 100000
set_option linter.unusedSimpArgs false
set_option linter.unusedVariables false
namespace Go.Vm
open Go

theorem hmix : Go.Proofs.Tryd.prog.follows .mixedOrders = true := by kernel_rfl

end Go.Vm
