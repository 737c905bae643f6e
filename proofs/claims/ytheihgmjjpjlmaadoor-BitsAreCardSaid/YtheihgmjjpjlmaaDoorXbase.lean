/- Laid. -/
import Derived.Test.YtheihgmjjpjlmaaDoorVmThree
import Derived.KernelRfl
import Derived.Test.YtheihgmjjpjlmaaDoorProg
section
/- Code. -/
set_option maxRecDepth 100000
set_option linter.unusedSimpArgs false
set_option linter.unusedVariables false
namespace Go.Vm
open Go
end Go.Vm
end
section
/- Walks. -/
set_option maxRecDepth 100000
set_option linter.unusedSimpArgs false
set_option linter.unusedVariables false
namespace Go.Vm
open Go
theorem hmix : Go.Proofs.Tryd.prog.follows .mixedOrders = true := by kernel_rfl
end Go.Vm
end
