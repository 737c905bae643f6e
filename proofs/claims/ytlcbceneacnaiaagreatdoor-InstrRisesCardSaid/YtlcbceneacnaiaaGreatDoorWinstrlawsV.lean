/- Laid. -/
import Derived.Test.YtlcbceneacnaiaaGreatDoorLBitsAll
import Derived.Test.YtlcbceneacnaiaaGreatDoorXinstrV
import Derived.Test.YtlcbceneacnaiaaGreatDoorLAll
/- Arguments of the laws. -/
namespace Go.Vm
open Go
abbrev TySet : Ty := .st (.cons (.int .i64) (.cons (.sl (.int .u64)) .nil))
abbrev TyIn : Ty := .st (.cons (.int .i64) (.cons (.int .i64) (.cons (.int .i64) (.cons (.int .i64) (.cons (.int .i64) (.cons (.int .i64) (.cons (.int .i64) (.cons (.int .i64) (.cons (.arr 3 (.int .i64)) .nil)))))))))
theorem fits_in {x : PV} (h : FitsV TyIn x) : ∃ i : In, x = pI i := by
  rcases h with ⟨_, c, rfl, h⟩ | ⟨h, _⟩
  · obtain ⟨_, _, rfl, ⟨v1, rfl, _⟩, h⟩ := h
    obtain ⟨_, _, rfl, ⟨v2, rfl, _⟩, h⟩ := h
    obtain ⟨_, _, rfl, ⟨v3, rfl, _⟩, h⟩ := h
    obtain ⟨_, _, rfl, ⟨v4, rfl, _⟩, h⟩ := h
    obtain ⟨_, _, rfl, ⟨v5, rfl, _⟩, h⟩ := h
    obtain ⟨_, _, rfl, ⟨v6, rfl, _⟩, h⟩ := h
    obtain ⟨_, _, rfl, ⟨v7, rfl, _⟩, h⟩ := h
    obtain ⟨_, _, rfl, ⟨v8, rfl, _⟩, h⟩ := h
    obtain ⟨_, _, rfl, h9, rfl⟩ := h
    obtain ⟨_, _, rfl, ⟨v9, rfl, _⟩, h9⟩ := h9
    obtain ⟨_, _, rfl, ⟨v10, rfl, _⟩, h9⟩ := h9
    obtain ⟨_, _, rfl, ⟨v11, rfl, _⟩, rfl⟩ := h9
    exact ⟨⟨v1, v2, v3, v4, v5, v6, v7, v8, v9, v10, v11⟩, rfl⟩
  · cases h
theorem law_InstrRises {x0 x1 x2 x3 x4 x5 x6 x7 x8 : PV} (h0 : FitsV TySet x0) (h1 : FitsV TySet x1) (h2 : FitsV (.st (.cons .bool (.cons (.sl (.st (.cons (.int .i64) (.cons (.int .i64) .nil)))) .nil))) x2) (h3 : FitsV (.st (.cons .bool (.cons (.sl (.st (.cons (.int .i64) (.cons (.int .i64) .nil)))) .nil))) x3) (h4 : FitsV (.st (.cons .bool (.cons (.sl (.int .i64)) .nil))) x4) (h5 : FitsV (.st (.cons .bool (.cons (.sl (.int .i64)) .nil))) x5) (h6 : FitsV TyIn x6) (h7 : FitsV (.int .i64) x7) (h8 : FitsV (.int .i64) x8) : Pure Go.Proofs.Tryz.prog glD 4 [x0, x1, x2, x3, x4, x5, x6, x7, x8] (.bool true) := by
  obtain ⟨m, ws, rfl, hw, _⟩ := fits_set h0
  obtain ⟨n, us, rfl, hu, _⟩ := fits_set h1
  obtain ⟨oa, la, rfl⟩ := fits_envF h2
  obtain ⟨ob, lb, rfl⟩ := fits_envF h3
  obtain ⟨oc, lc, rfl⟩ := fits_envS h4
  obtain ⟨od, ld, rfl⟩ := fits_envS h5
  obtain ⟨i, rfl⟩ := fits_in h6
  obtain ⟨x, rfl, _⟩ := fits_int h7
  obtain ⟨y, rfl, _⟩ := fits_int h8
  exact l_InstrRises _ _ _ _ hw hu _ _ _ _ _ _ _ _ _ _ _
end Go.Vm
