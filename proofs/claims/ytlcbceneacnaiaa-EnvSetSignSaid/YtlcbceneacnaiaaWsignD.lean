/- Laid. -/
import Derived.Test.YtlcbceneacnaiaaCsignD
import Derived.Test.YtlcbceneacnaiaaWsignC
/- Walks. -/
set_option maxRecDepth 100000
set_option linter.unusedSimpArgs false
set_option linter.unusedVariables false
namespace Go.Vm
open Go

section
variable {gl : Nat → Option PV}
set_option maxHeartbeats 4000000
theorem take_eq_all {l m : List Int} {i : Int} (h : i = l.length) (hl : l.length = m.length) (he : l.take i.toNat = m.take i.toNat) : l = m := by
  rw [take_all h, take_all (by omega)] at he
  exact he
end

end Go.Vm
