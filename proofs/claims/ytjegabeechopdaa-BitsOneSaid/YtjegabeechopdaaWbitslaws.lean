/- Arguments of the laws. -/
import Derived.Test.YtjegabeechopdaaLArgs
import Derived.Test.YtjegabeechopdaaWbitsE
namespace Go.Vm
open Go
theorem law_BitsMinus {gl : Nat → Option PV} {x0 x1 : PV} (h0 : FitsV (.st (.cons (.int .i64) (.cons (.sl (.int .u64)) .nil))) x0) (h1 : FitsV (.st (.cons (.int .i64) (.cons (.sl (.int .u64)) .nil))) x1) : Pure Go.Proofs.Try.prog gl 18 [x0, x1] (.bool true) := by
  obtain ⟨a, ws, rfl, ha, _⟩ := fits_set h0
  obtain ⟨b, us, rfl, hb, _⟩ := fits_set h1
  exact l_BitsMinus _ _ _ _ ha hb
theorem law_BitsLattice {gl : Nat → Option PV} {x0 x1 x2 : PV} (h0 : FitsV (.st (.cons (.int .i64) (.cons (.sl (.int .u64)) .nil))) x0) (h1 : FitsV (.st (.cons (.int .i64) (.cons (.sl (.int .u64)) .nil))) x1) (h2 : FitsV (.st (.cons (.int .i64) (.cons (.sl (.int .u64)) .nil))) x2) : Pure Go.Proofs.Try.prog gl 17 [x0, x1, x2] (.bool true) := by
  obtain ⟨a, ws, rfl, ha, _⟩ := fits_set h0
  obtain ⟨b, us, rfl, hb, _⟩ := fits_set h1
  obtain ⟨c, ts, rfl, hc, _⟩ := fits_set h2
  exact l_BitsLattice _ _ _ _ _ _ ha hb hc
theorem law_BitsOne {gl : Nat → Option PV} {x0 x1 x2 : PV} (h0 : FitsV (.st (.cons (.int .i64) (.cons (.sl (.int .u64)) .nil))) x0) (h1 : FitsV (.int .i64) x1) (h2 : FitsV (.int .i64) x2) : Pure Go.Proofs.Try.prog gl 19 [x0, x1, x2] (.bool true) := by
  obtain ⟨a, ws, rfl, ha, _⟩ := fits_set h0
  obtain ⟨i, rfl, _⟩ := fits_int h1
  obtain ⟨k, rfl, _⟩ := fits_int h2
  exact l_BitsOne _ _ _ _ ha

end Go.Vm
