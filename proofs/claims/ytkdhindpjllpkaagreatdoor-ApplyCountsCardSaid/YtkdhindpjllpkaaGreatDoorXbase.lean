/- Laid. -/
import Derived.Test.YtkdhindpjllpkaaGreatDoorVmThree
import Derived.KernelRfl
import Derived.Test.YtkdhindpjllpkaaGreatDoorProg
set_option linter.unusedSimpArgs false
set_option linter.unusedVariables false
set_option maxRecDepth 100000
set_option maxHeartbeats 4000000
set_option exponentiation.threshold 2000
namespace Go.Vm
open Go
theorem hmix : Go.Proofs.Tryz.prog.follows .mixedOrders = true := by kernel_rfl
end Go.Vm
