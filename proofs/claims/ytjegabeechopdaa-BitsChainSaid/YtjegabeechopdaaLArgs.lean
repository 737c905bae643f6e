/- Arguments of plain data, by their types. -/
import Derived.Test.YtjegabeechopdaaVmX
set_option linter.unusedSimpArgs false
set_option linter.unusedVariables false
namespace Go.Vm
open Go
theorem fits_val {x : PV} (h : FitsV (.st (.cons (.int .i64) (.cons (.int .i64) .nil))) x) : ∃ k c, x = .agg [.int .i64 k, .int .i64 c] ∧ (Lit.int .i64 k).wf = true ∧ (Lit.int .i64 c).wf = true := by
  rcases h with ⟨_, c, rfl, x, y, rfl, ⟨k, rfl, hk⟩, z, u, rfl, ⟨n, rfl, hn⟩, rfl⟩ | ⟨h, _⟩
  · exact ⟨k, n, rfl, hk, hn⟩
  · cases h
theorem fits_int {k : IntKind} {x : PV} (h : FitsV (.int k) x) : ∃ n, x = .int k n ∧ (Lit.int k n).wf = true := by
  rcases h with ⟨h, _⟩ | ⟨_, n, h, hw⟩
  · cases h
  · injection h with h
    exact ⟨n, h, hw⟩
theorem fits_bool {x : PV} (h : FitsV .bool x) : ∃ b, x = .bool b := by
  rcases h with ⟨h, _⟩ | ⟨_, n, h⟩
  · cases h
  · injection h with h
    exact ⟨n, h⟩
theorem i64_wf {n : Int} (h : (Lit.int .i64 n).wf = true) : -9223372036854775808 ≤ n ∧ n ≤ 9223372036854775807 := by
  simpa [Lit.wf, IntKind.min, IntKind.max, IntKind.bits, IntKind.signed] using h
theorem u64_wf {n : Int} (h : (Lit.int .u64 n).wf = true) : 0 ≤ n ∧ n ≤ 18446744073709551615 := by
  simpa [Lit.wf, IntKind.min, IntKind.max, IntKind.bits, IntKind.signed] using h
end Go.Vm
