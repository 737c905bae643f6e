/- Laid. -/
import Derived.Test.YtlcbceneacnaiaaLBitsAll
import Derived.Test.YtlcbceneacnaiaaWenvL
import Derived.Test.YtlcbceneacnaiaaLFits
/- Arguments of the laws. -/
namespace Go.Vm
open Go
theorem law_EnvLattice {gl : Nat → Option PV} {x0 x1 x2 : PV} (h0 : FitsV (.st (.cons .bool (.cons (.sl (.st (.cons (.int .i64) (.cons (.int .i64) .nil)))) .nil))) x0) (h1 : FitsV (.st (.cons .bool (.cons (.sl (.st (.cons (.int .i64) (.cons (.int .i64) .nil)))) .nil))) x1) (h2 : FitsV (.st (.cons .bool (.cons (.sl (.st (.cons (.int .i64) (.cons (.int .i64) .nil)))) .nil))) x2) : Pure Go.Proofs.Try.prog gl 3 [x0, x1, x2] (.bool true) := by
  obtain ⟨a0, l0, rfl⟩ := fits_envF h0
  obtain ⟨a1, l1, rfl⟩ := fits_envF h1
  obtain ⟨a2, l2, rfl⟩ := fits_envF h2
  exact l_EnvLattice ..
theorem law_EnvSets {gl : Nat → Option PV} {x0 x1 x2 x3 : PV} (h0 : FitsV (.st (.cons .bool (.cons (.sl (.st (.cons (.int .i64) (.cons (.int .i64) .nil)))) .nil))) x0) (h1 : FitsV (.int .i64) x1) (h2 : FitsV (.int .i64) x2) (h3 : FitsV (.st (.cons (.int .i64) (.cons (.int .i64) .nil))) x3) : Pure Go.Proofs.Try.prog gl 4 [x0, x1, x2, x3] (.bool true) := by
  obtain ⟨a0, l0, rfl⟩ := fits_envF h0
  obtain ⟨n1, rfl⟩ := fits_i64 h1
  obtain ⟨n2, rfl⟩ := fits_i64 h2
  obtain ⟨k3, c3, rfl, _⟩ := fits_val h3
  exact l_EnvSets ..
theorem law_EnvAbove {gl : Nat → Option PV} {x0 x1 x2 : PV} (h0 : FitsV (.st (.cons .bool (.cons (.sl (.int .i64)) .nil))) x0) (h1 : FitsV (.st (.cons .bool (.cons (.sl (.int .i64)) .nil))) x1) (h2 : FitsV (.st (.cons .bool (.cons (.sl (.int .i64)) .nil))) x2) : Pure Go.Proofs.Try.prog gl 5 [x0, x1, x2] (.bool true) := by
  obtain ⟨a0, l0, rfl⟩ := fits_envS h0
  obtain ⟨a1, l1, rfl⟩ := fits_envS h1
  obtain ⟨a2, l2, rfl⟩ := fits_envS h2
  exact l_EnvAbove ..
theorem law_EnvFlat {gl : Nat → Option PV} {x0 x1 x2 x3 x4 : PV} (h0 : FitsV (.st (.cons .bool (.cons (.sl (.st (.cons (.int .i64) (.cons (.int .i64) .nil)))) .nil))) x0) (h1 : FitsV (.st (.cons .bool (.cons (.sl (.st (.cons (.int .i64) (.cons (.int .i64) .nil)))) .nil))) x1) (h2 : FitsV (.int .i64) x2) (h3 : FitsV (.st (.cons (.int .i64) (.cons (.int .i64) .nil))) x3) (h4 : FitsV (.int .i64) x4) : Pure Go.Proofs.Try.prog gl 6 [x0, x1, x2, x3, x4] (.bool true) := by
  obtain ⟨a0, l0, rfl⟩ := fits_envF h0
  obtain ⟨a1, l1, rfl⟩ := fits_envF h1
  obtain ⟨n2, rfl⟩ := fits_i64 h2
  obtain ⟨k3, c3, rfl, _⟩ := fits_val h3
  obtain ⟨n4, rfl⟩ := fits_i64 h4
  exact l_EnvFlat ..
theorem law_EnvSign {gl : Nat → Option PV} {x0 x1 x2 x3 x4 : PV} (h0 : FitsV (.st (.cons .bool (.cons (.sl (.int .i64)) .nil))) x0) (h1 : FitsV (.st (.cons .bool (.cons (.sl (.int .i64)) .nil))) x1) (h2 : FitsV (.int .i64) x2) (h3 : FitsV (.int .i64) x3) (h4 : FitsV (.int .i64) x4) : Pure Go.Proofs.Try.prog gl 7 [x0, x1, x2, x3, x4] (.bool true) := by
  obtain ⟨a0, l0, rfl⟩ := fits_envS h0
  obtain ⟨a1, l1, rfl⟩ := fits_envS h1
  obtain ⟨n2, rfl⟩ := fits_i64 h2
  obtain ⟨n3, rfl⟩ := fits_i64 h3
  obtain ⟨n4, rfl⟩ := fits_i64 h4
  exact l_EnvSign ..
theorem law_EnvSetSign {gl : Nat → Option PV} {x0 x1 x2 x3 : PV} (h0 : FitsV (.st (.cons .bool (.cons (.sl (.int .i64)) .nil))) x0) (h1 : FitsV (.int .i64) x1) (h2 : FitsV (.int .i64) x2) (h3 : FitsV (.int .i64) x3) : Pure Go.Proofs.Try.prog gl 8 [x0, x1, x2, x3] (.bool true) := by
  obtain ⟨a0, l0, rfl⟩ := fits_envS h0
  obtain ⟨n1, rfl⟩ := fits_i64 h1
  obtain ⟨n2, rfl⟩ := fits_i64 h2
  obtain ⟨n3, rfl⟩ := fits_i64 h3
  exact l_EnvSetSign ..

end Go.Vm
