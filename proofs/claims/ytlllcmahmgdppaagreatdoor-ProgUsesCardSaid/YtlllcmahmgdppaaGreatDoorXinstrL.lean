/- Laid. -/
import Derived.Test.YtlllcmahmgdppaaGreatDoorVmThree
import Derived.KernelRfl
import Derived.Test.YtlllcmahmgdppaaGreatDoorProg
import Derived.Test.YtlllcmahmgdppaaGreatDoorXinstrM
section
/- Code. -/
set_option maxRecDepth 100000
set_option linter.unusedSimpArgs false
set_option linter.unusedVariables false
namespace Go.Vm
open Go
end Go.Vm
end
section
/- Walks. -/
set_option maxRecDepth 100000
set_option linter.unusedSimpArgs false
set_option linter.unusedVariables false
namespace Go.Vm
open Go
theorem usesI_len (i : In) : (usesI i).length ≤ 5 := by
  unfold usesI
  split
  · exact Nat.le_trans (dedup_len _) (rawUses_len i)
  · simp
end Go.Vm
end
