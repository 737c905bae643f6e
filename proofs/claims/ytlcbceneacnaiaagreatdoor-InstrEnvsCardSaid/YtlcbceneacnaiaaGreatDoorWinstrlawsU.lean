/- Laid. -/
import Derived.Test.YtlcbceneacnaiaaGreatDoorLBitsAll
import Derived.Test.YtlcbceneacnaiaaGreatDoorXinstrU
import Derived.Test.YtlcbceneacnaiaaGreatDoorLAll
/- Arguments of the laws. -/
namespace Go.Vm
open Go
abbrev TyIn : Ty := .st (.cons (.int .i64) (.cons (.int .i64) (.cons (.int .i64) (.cons (.int .i64) (.cons (.int .i64) (.cons (.int .i64) (.cons (.int .i64) (.cons (.int .i64) (.cons (.arr 3 (.int .i64)) .nil)))))))))
theorem fits_in {x : PV} (h : FitsV TyIn x) : ∃ i : In, x = pI i := by
  rcases h with ⟨_, c, rfl, h⟩ | ⟨h, _⟩
  · obtain ⟨_, _, rfl, ⟨v1, rfl, _⟩, h⟩ := h
    obtain ⟨_, _, rfl, ⟨v2, rfl, _⟩, h⟩ := h
    obtain ⟨_, _, rfl, ⟨v3, rfl, _⟩, h⟩ := h
    obtain ⟨_, _, rfl, ⟨v4, rfl, _⟩, h⟩ := h
    obtain ⟨_, _, rfl, ⟨v5, rfl, _⟩, h⟩ := h
    obtain ⟨_, _, rfl, ⟨v6, rfl, _⟩, h⟩ := h
    obtain ⟨_, _, rfl, ⟨v7, rfl, _⟩, h⟩ := h
    obtain ⟨_, _, rfl, ⟨v8, rfl, _⟩, h⟩ := h
    obtain ⟨_, _, rfl, h9, rfl⟩ := h
    obtain ⟨_, _, rfl, ⟨v9, rfl, _⟩, h9⟩ := h9
    obtain ⟨_, _, rfl, ⟨v10, rfl, _⟩, h9⟩ := h9
    obtain ⟨_, _, rfl, ⟨v11, rfl, _⟩, rfl⟩ := h9
    exact ⟨⟨v1, v2, v3, v4, v5, v6, v7, v8, v9, v10, v11⟩, rfl⟩
  · cases h
theorem law_InstrEnvs {x0 x1 x2 x3 : PV} (h0 : FitsV (.st (.cons .bool (.cons (.sl (.st (.cons (.int .i64) (.cons (.int .i64) .nil)))) .nil))) x0) (h1 : FitsV (.st (.cons .bool (.cons (.sl (.int .i64)) .nil))) x1) (h2 : FitsV TyIn x2) (h3 : FitsV (.int .i64) x3) : Pure Go.Proofs.Tryz.prog glD 3 [x0, x1, x2, x3] (.bool true) := by
  obtain ⟨oa, l, rfl⟩ := fits_envF h0
  obtain ⟨ob, m, rfl⟩ := fits_envS h1
  obtain ⟨i, rfl⟩ := fits_in h2
  obtain ⟨k, rfl⟩ := fits_i64 h3
  exact l_InstrEnvs _ _ _ _ _ _
end Go.Vm
