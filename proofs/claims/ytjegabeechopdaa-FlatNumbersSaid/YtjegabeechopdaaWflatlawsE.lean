/- Arguments of the laws. -/
import Derived.Test.YtjegabeechopdaaVmX
import Derived.Test.YtjegabeechopdaaWflatE
namespace Go.Vm
open Go
section
variable {gl : Nat → Option PV}

theorem fits_val {x : PV} (h : FitsV (.st (.cons (.int .i64) (.cons (.int .i64) .nil))) x) : ∃ k c, x = .agg [.int .i64 k, .int .i64 c] := by
  rcases h with ⟨_, c, rfl, x, y, rfl, ⟨k, rfl, _⟩, z, u, rfl, ⟨n, rfl, _⟩, rfl⟩ | ⟨h, _⟩
  · exact ⟨k, n, rfl⟩
  · cases h
theorem fits_i64 {x : PV} (h : FitsV (.int .i64) x) : ∃ n, x = .int .i64 n ∧ (Lit.int .i64 n).wf = true := by
  rcases h with ⟨h, _⟩ | ⟨_, n, h, hw⟩
  · cases h
  · injection h with h
    exact ⟨n, h, hw⟩

theorem law_FlatNumbers {x0 x1 x2 : PV} (h0 : FitsV (.int .i64) x0) (h1 : FitsV (.int .i64) x1) (h2 : FitsV (.int .i64) x2) : Pure Go.Proofs.Try.prog gl 5 [x0, x1, x2] (.bool true) := by
  obtain ⟨n0, rfl, _⟩ := fits_i64 h0
  obtain ⟨n1, rfl, _⟩ := fits_i64 h1
  obtain ⟨n2, rfl, _⟩ := fits_i64 h2
  exact l_FlatNumbers ..
end

end Go.Vm
