/- Laid. -/
import Derived.Test.YtlcbceneacnaiaaLEnvL
import Derived.Test.YtlcbceneacnaiaaLBitsAll
/- Arguments: what is known of variables. -/
set_option linter.unusedSimpArgs false
set_option linter.unusedVariables false
namespace Go.Vm
open Go
abbrev TyVal : Ty := .st (.cons (.int .i64) (.cons (.int .i64) .nil))
theorem list_of {α : Type} {f : α → PV} : ∀ {l : List PV}, (∀ x ∈ l, ∃ a, x = f a) → ∃ q : List α, l = q.map f
  | [], _ => ⟨[], rfl⟩
  | x :: l, h => by
    obtain ⟨a, rfl⟩ := h x (by simp)
    obtain ⟨q, rfl⟩ := list_of (l := l) fun y hy => h y (by simp [hy])
    exact ⟨a :: q, rfl⟩
theorem fits_envF {x : PV} (h : FitsV (.st (.cons .bool (.cons (.sl (.st (.cons (.int .i64) (.cons (.int .i64) .nil)))) .nil))) x) : ∃ on l, x = eIn pq on l := by
  rcases h with ⟨_, c, rfl, x, y, rfl, ⟨b, rfl⟩, z, u, rfl, ⟨l, rfl, hl, hx⟩, rfl⟩ | ⟨h, _⟩
  · obtain ⟨q, rfl⟩ := list_of (f := pq) fun y hy => by
      obtain ⟨k, c, rfl, _⟩ := fits_val (x := y) (hx y hy)
      exact ⟨(k, c), rfl⟩
    exact ⟨b, q, rfl⟩
  · cases h
theorem fits_i64 {x : PV} (h : FitsV (.int .i64) x) : ∃ n : I64, x = pi n := by
  obtain ⟨n, rfl, hn⟩ := fits_int h
  exact ⟨⟨n, i64_wf hn⟩, rfl⟩
theorem fits_envS {x : PV} (h : FitsV (.st (.cons .bool (.cons (.sl (.int .i64)) .nil))) x) : ∃ on l, x = eIn pi on l := by
  rcases h with ⟨_, c, rfl, x, y, rfl, ⟨b, rfl⟩, z, u, rfl, ⟨l, rfl, hl, hx⟩, rfl⟩ | ⟨h, _⟩
  · obtain ⟨q, rfl⟩ := list_of (f := pi) fun y hy => fits_i64 (x := y) (hx y hy)
    exact ⟨b, q, rfl⟩
  · cases h
end Go.Vm
