/- Arguments of the laws. -/
import Derived.Test.YtjegabeechopdaaVmX
import Derived.Test.YtjegabeechopdaaWflatC
namespace Go.Vm
open Go
section
variable {gl : Nat → Option PV}

theorem fits_val {x : PV} (h : FitsV (.st (.cons (.int .i64) (.cons (.int .i64) .nil))) x) : ∃ k c, x = .agg [.int .i64 k, .int .i64 c] := by
  rcases h with ⟨_, c, rfl, x, y, rfl, ⟨k, rfl, _⟩, z, u, rfl, ⟨n, rfl, _⟩, rfl⟩ | ⟨h, _⟩
  · exact ⟨k, n, rfl⟩
  · cases h
theorem fits_i64 {x : PV} (h : FitsV (.int .i64) x) : ∃ n, x = .int .i64 n ∧ (Lit.int .i64 n).wf = true := by
  rcases h with ⟨h, _⟩ | ⟨_, n, h, hw⟩
  · cases h
  · injection h with h
    exact ⟨n, h, hw⟩

theorem law_FlatIs {a b n : PV} (ha : FitsV (.st (.cons (.int .i64) (.cons (.int .i64) .nil))) a) (hb : FitsV (.st (.cons (.int .i64) (.cons (.int .i64) .nil))) b) (hn : FitsV (.int .i64) n) : Pure Go.Proofs.Try.prog gl 7 [a, b, n] (.bool true) := by
  obtain ⟨k, c, rfl⟩ := fits_val ha
  obtain ⟨k', c', rfl⟩ := fits_val hb
  obtain ⟨n, rfl, _⟩ := fits_i64 hn
  exact l_FlatIs ..
end

end Go.Vm
