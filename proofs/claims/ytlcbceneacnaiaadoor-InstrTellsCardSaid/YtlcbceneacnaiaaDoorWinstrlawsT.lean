/- Laid. -/
import Derived.Test.YtlcbceneacnaiaaDoorLBitsAll
import Derived.Test.YtlcbceneacnaiaaDoorXinstrO
import Derived.Test.YtlcbceneacnaiaaDoorLAll
/- Arguments of the laws. -/
namespace Go.Vm
open Go
abbrev TySet : Ty := .st (.cons (.int .i64) (.cons (.sl (.int .u64)) .nil))
abbrev TyIn : Ty := .st (.cons (.int .i64) (.cons (.int .i64) (.cons (.int .i64) (.cons (.int .i64) (.cons (.int .i64) (.cons (.int .i64) (.cons (.int .i64) (.cons (.int .i64) (.cons (.arr 3 (.int .i64)) .nil)))))))))
theorem fits_in {x : PV} (h : FitsV TyIn x) : ∃ i : In, x = pI i := by
  rcases h with ⟨_, c, rfl, h⟩ | ⟨h, _⟩
  · obtain ⟨_, _, rfl, ⟨v1, rfl, _⟩, h⟩ := h
    obtain ⟨_, _, rfl, ⟨v2, rfl, _⟩, h⟩ := h
    obtain ⟨_, _, rfl, ⟨v3, rfl, _⟩, h⟩ := h
    obtain ⟨_, _, rfl, ⟨v4, rfl, _⟩, h⟩ := h
    obtain ⟨_, _, rfl, ⟨v5, rfl, _⟩, h⟩ := h
    obtain ⟨_, _, rfl, ⟨v6, rfl, _⟩, h⟩ := h
    obtain ⟨_, _, rfl, ⟨v7, rfl, _⟩, h⟩ := h
    obtain ⟨_, _, rfl, ⟨v8, rfl, _⟩, h⟩ := h
    obtain ⟨_, _, rfl, h9, rfl⟩ := h
    obtain ⟨_, _, rfl, ⟨v9, rfl, _⟩, h9⟩ := h9
    obtain ⟨_, _, rfl, ⟨v10, rfl, _⟩, h9⟩ := h9
    obtain ⟨_, _, rfl, ⟨v11, rfl, _⟩, rfl⟩ := h9
    exact ⟨⟨v1, v2, v3, v4, v5, v6, v7, v8, v9, v10, v11⟩, rfl⟩
  · cases h
theorem law_InstrTells {x0 x1 x2 : PV} (h0 : FitsV (.st (.cons .bool (.cons (.sl (.st (.cons (.int .i64) (.cons (.int .i64) .nil)))) .nil))) x0) (h1 : FitsV TyIn x1) (h2 : FitsV (.int .i64) x2) : Pure Go.Proofs.Tryd.prog glD 6 [x0, x1, x2] (.bool true) := by
  obtain ⟨on, l, rfl⟩ := fits_envF h0
  obtain ⟨i, rfl⟩ := fits_in h1
  obtain ⟨k, rfl, _⟩ := fits_int h2
  exact l_InstrTells _ _ _ _

end Go.Vm
