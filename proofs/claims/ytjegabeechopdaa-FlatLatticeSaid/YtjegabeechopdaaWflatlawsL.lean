/- Arguments of the laws. -/
import Derived.Test.YtjegabeechopdaaLArgs
import Derived.Test.YtjegabeechopdaaWflatL
namespace Go.Vm
open Go
theorem law_FlatLattice {gl : Nat → Option PV} {x0 x1 x2 : PV} (h0 : FitsV (.st (.cons (.int .i64) (.cons (.int .i64) .nil))) x0) (h1 : FitsV (.st (.cons (.int .i64) (.cons (.int .i64) .nil))) x1) (h2 : FitsV (.st (.cons (.int .i64) (.cons (.int .i64) .nil))) x2) : Pure Go.Proofs.Try.prog gl 3 [x0, x1, x2] (.bool true) := by
  obtain ⟨k0, c0, rfl, _⟩ := fits_val h0
  obtain ⟨k1, c1, rfl, _⟩ := fits_val h1
  obtain ⟨k2, c2, rfl, _⟩ := fits_val h2
  exact l_FlatLattice ..

end Go.Vm
