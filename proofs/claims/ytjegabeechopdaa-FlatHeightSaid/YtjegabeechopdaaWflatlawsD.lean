/- Arguments of the laws. -/
import Derived.Test.YtjegabeechopdaaVmX
import Derived.Test.YtjegabeechopdaaWflatD
namespace Go.Vm
open Go
section
variable {gl : Nat → Option PV}

theorem fits_val {x : PV} (h : FitsV (.st (.cons (.int .i64) (.cons (.int .i64) .nil))) x) : ∃ k c, x = .agg [.int .i64 k, .int .i64 c] := by
  rcases h with ⟨_, c, rfl, x, y, rfl, ⟨k, rfl, _⟩, z, u, rfl, ⟨n, rfl, _⟩, rfl⟩ | ⟨h, _⟩
  · exact ⟨k, n, rfl⟩
  · cases h
theorem fits_i64 {x : PV} (h : FitsV (.int .i64) x) : ∃ n, x = .int .i64 n ∧ (Lit.int .i64 n).wf = true := by
  rcases h with ⟨h, _⟩ | ⟨_, n, h, hw⟩
  · cases h
  · injection h with h
    exact ⟨n, h, hw⟩

theorem law_FlatHeight {x0 x1 : PV} (h0 : FitsV (.st (.cons (.int .i64) (.cons (.int .i64) .nil))) x0) (h1 : FitsV (.st (.cons (.int .i64) (.cons (.int .i64) .nil))) x1) : Pure Go.Proofs.Try.prog gl 4 [x0, x1] (.bool true) := by
  obtain ⟨k0, c0, rfl⟩ := fits_val h0
  obtain ⟨k1, c1, rfl⟩ := fits_val h1
  exact l_FlatHeight ..

theorem law_FlatStrict {x0 x1 : PV} (h0 : FitsV (.st (.cons (.int .i64) (.cons (.int .i64) .nil))) x0) (h1 : FitsV (.st (.cons (.int .i64) (.cons (.int .i64) .nil))) x1) : Pure Go.Proofs.Try.prog gl 6 [x0, x1] (.bool true) := by
  obtain ⟨k0, c0, rfl⟩ := fits_val h0
  obtain ⟨k1, c1, rfl⟩ := fits_val h1
  exact l_FlatStrict ..

theorem law_FlatRises {x0 x1 x2 x3 : PV} (h0 : FitsV (.st (.cons (.int .i64) (.cons (.int .i64) .nil))) x0) (h1 : FitsV (.st (.cons (.int .i64) (.cons (.int .i64) .nil))) x1) (h2 : FitsV (.st (.cons (.int .i64) (.cons (.int .i64) .nil))) x2) (h3 : FitsV (.st (.cons (.int .i64) (.cons (.int .i64) .nil))) x3) : Pure Go.Proofs.Try.prog gl 8 [x0, x1, x2, x3] (.bool true) := by
  obtain ⟨k0, c0, rfl⟩ := fits_val h0
  obtain ⟨k1, c1, rfl⟩ := fits_val h1
  obtain ⟨k2, c2, rfl⟩ := fits_val h2
  obtain ⟨k3, c3, rfl⟩ := fits_val h3
  exact l_FlatRises ..
end

end Go.Vm
