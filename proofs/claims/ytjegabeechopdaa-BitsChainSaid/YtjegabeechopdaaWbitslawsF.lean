/- Arguments of the laws. -/
import Derived.Test.YtjegabeechopdaaLArgs
import Derived.Test.YtjegabeechopdaaWbitsF
namespace Go.Vm
open Go
theorem law_BitsChain {gl : Nat → Option PV} {x0 x1 : PV} (h0 : FitsV (.int .i64) x0) (h1 : FitsV (.sl (.int .i64)) x1) : Pure Go.Proofs.Try.prog gl 15 [x0, x1] (.bool true) := by
  obtain ⟨n, rfl, _⟩ := fits_int h0
  obtain ⟨l, rfl, _⟩ := fits_ints h1
  exact l_BitsChain _ _

end Go.Vm
