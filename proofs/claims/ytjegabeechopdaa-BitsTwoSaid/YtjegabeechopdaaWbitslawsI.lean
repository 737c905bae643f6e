/- Laid. -/
import Derived.Test.YtjegabeechopdaaLBitsAll
import Derived.Test.YtjegabeechopdaaWbitsI
/- Arguments of the laws. -/
namespace Go.Vm
open Go
theorem law_BitsTwo {gl : Nat → Option PV} {x0 x1 : PV} (h0 : FitsV (.st (.cons (.int .i64) (.cons (.sl (.int .u64)) .nil))) x0) (h1 : FitsV (.st (.cons (.int .i64) (.cons (.sl (.int .u64)) .nil))) x1) : Pure Go.Proofs.Try.prog gl 16 [x0, x1] (.bool true) := by
  obtain ⟨a, ws, rfl, ha, _⟩ := fits_set h0
  obtain ⟨b, us, rfl, hb, _⟩ := fits_set h1
  exact l_BitsTwo _ _ _ _ ha hb

end Go.Vm
