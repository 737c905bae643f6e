/- Laid. -/
import Derived.Test.YtheihgmjjpjlmaaDoorLBitsAll
import Derived.Test.YtheihgmjjpjlmaaDoorXbitsM
import Derived.Test.YtheihgmjjpjlmaaDoorLAll
/- Arguments of the laws. -/
namespace Go.Vm
open Go
theorem law_BitsList {x0 : PV} (h0 : FitsV (.st (.cons (.int .i64) (.cons (.sl (.int .u64)) .nil))) x0) : Pure Go.Proofs.Tryd.prog glT 3 [x0] (.bool true) := by
  obtain ⟨a, ws, rfl, ha, _⟩ := fits_set h0
  exact l_BitsList _ _ ha
theorem law_BitsAre {x0 x1 x2 x3 : PV} (h0 : FitsV (.st (.cons (.int .i64) (.cons (.sl (.int .u64)) .nil))) x0) (h1 : FitsV (.int .i64) x1) (h2 : FitsV (.int .i64) x2) (h3 : FitsV (.sl (.int .i64)) x3) : Pure Go.Proofs.Tryd.prog glT 4 [x0, x1, x2, x3] (.bool true) := by
  obtain ⟨a, ws, rfl, ha, _⟩ := fits_set h0
  obtain ⟨i, rfl, _⟩ := fits_int h1
  obtain ⟨m, rfl, _⟩ := fits_int h2
  obtain ⟨l, rfl, _⟩ := fits_ints h3
  exact l_BitsAre _ _ _ _ _ ha
end Go.Vm
