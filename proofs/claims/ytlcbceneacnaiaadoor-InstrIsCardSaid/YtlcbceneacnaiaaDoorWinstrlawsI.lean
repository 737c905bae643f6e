/- Laid. -/
import Derived.Test.YtlcbceneacnaiaaDoorLBitsAll
import Derived.Test.YtlcbceneacnaiaaDoorXinstrS
import Derived.Test.YtlcbceneacnaiaaDoorLAll
/- Arguments of the laws. -/
namespace Go.Vm
open Go
abbrev TySet : Ty := .st (.cons (.int .i64) (.cons (.sl (.int .u64)) .nil))
abbrev TyIn : Ty := .st (.cons (.int .i64) (.cons (.int .i64) (.cons (.int .i64) (.cons (.int .i64) (.cons (.int .i64) (.cons (.int .i64) (.cons (.int .i64) (.cons (.int .i64) (.cons (.arr 3 (.int .i64)) .nil)))))))))
theorem fits_in {x : PV} (h : FitsV TyIn x) : ∃ i : In, x = pI i := by
  rcases h with ⟨_, c, rfl, h⟩ | ⟨h, _⟩
  · obtain ⟨_, _, rfl, ⟨v1, rfl, _⟩, h⟩ := h
    obtain ⟨_, _, rfl, ⟨v2, rfl, _⟩, h⟩ := h
    obtain ⟨_, _, rfl, ⟨v3, rfl, _⟩, h⟩ := h
    obtain ⟨_, _, rfl, ⟨v4, rfl, _⟩, h⟩ := h
    obtain ⟨_, _, rfl, ⟨v5, rfl, _⟩, h⟩ := h
    obtain ⟨_, _, rfl, ⟨v6, rfl, _⟩, h⟩ := h
    obtain ⟨_, _, rfl, ⟨v7, rfl, _⟩, h⟩ := h
    obtain ⟨_, _, rfl, ⟨v8, rfl, _⟩, h⟩ := h
    obtain ⟨_, _, rfl, h9, rfl⟩ := h
    obtain ⟨_, _, rfl, ⟨v9, rfl, _⟩, h9⟩ := h9
    obtain ⟨_, _, rfl, ⟨v10, rfl, _⟩, h9⟩ := h9
    obtain ⟨_, _, rfl, ⟨v11, rfl, _⟩, rfl⟩ := h9
    exact ⟨⟨v1, v2, v3, v4, v5, v6, v7, v8, v9, v10, v11⟩, rfl⟩
  · cases h
theorem law_InstrIs {x0 x1 : PV} (h0 : FitsV TyIn x0) (h1 : FitsV (.int .i64) x1) : Pure Go.Proofs.Tryd.prog glD 5 [x0, x1] (.bool true) := by
  obtain ⟨i, rfl⟩ := fits_in h0
  obtain ⟨k, rfl, _⟩ := fits_int h1
  exact l_InstrIs _ _

end Go.Vm
