/- Arguments of the laws. -/
import Derived.Test.YtjegabeechopdaaLArgs
import Derived.Test.YtjegabeechopdaaWsignG
namespace Go.Vm
open Go
theorem law_SignMakes {gl : Nat → Option PV} {x0 x1 : PV} (h0 : FitsV (.int .i64) x0) (h1 : FitsV (.int .i64) x1) : Pure Go.Proofs.Try.prog gl 9 [x0, x1] (.bool true) := by
  obtain ⟨a, rfl, ha⟩ := fits_int h0
  obtain ⟨b, rfl, hb⟩ := fits_int h1
  exact l_SignMakes _ _ (i64_wf ha) (i64_wf hb)

end Go.Vm
