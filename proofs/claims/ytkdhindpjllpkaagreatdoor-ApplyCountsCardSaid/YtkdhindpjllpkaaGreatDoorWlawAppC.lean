/- Laid. -/
import Derived.Test.YtkdhindpjllpkaaGreatDoorLBitsAll
import Derived.Test.YtkdhindpjllpkaaGreatDoorXappC
import Derived.Test.YtkdhindpjllpkaaGreatDoorLAll
/- Arguments of the laws. -/
namespace Go.Vm
open Go
abbrev TyIn : Ty := .st (.cons (.int .i64) (.cons (.int .i64) (.cons (.int .i64) (.cons (.int .i64) (.cons (.int .i64) (.cons (.int .i64) (.cons (.int .i64) (.cons (.int .i64) (.cons (.arr 3 (.int .i64)) .nil)))))))))
theorem fits_in {x : PV} (h : FitsV TyIn x) : ∃ i : In, x = pI i := by
  rcases h with ⟨_, c, rfl, h⟩ | ⟨h, _⟩
  · obtain ⟨_, _, rfl, ⟨v1, rfl, _⟩, h⟩ := h
    obtain ⟨_, _, rfl, ⟨v2, rfl, _⟩, h⟩ := h
    obtain ⟨_, _, rfl, ⟨v3, rfl, _⟩, h⟩ := h
    obtain ⟨_, _, rfl, ⟨v4, rfl, _⟩, h⟩ := h
    obtain ⟨_, _, rfl, ⟨v5, rfl, _⟩, h⟩ := h
    obtain ⟨_, _, rfl, ⟨v6, rfl, _⟩, h⟩ := h
    obtain ⟨_, _, rfl, ⟨v7, rfl, _⟩, h⟩ := h
    obtain ⟨_, _, rfl, ⟨v8, rfl, _⟩, h⟩ := h
    obtain ⟨_, _, rfl, h9, rfl⟩ := h
    obtain ⟨_, _, rfl, ⟨v9, rfl, _⟩, h9⟩ := h9
    obtain ⟨_, _, rfl, ⟨v10, rfl, _⟩, h9⟩ := h9
    obtain ⟨_, _, rfl, ⟨v11, rfl, _⟩, rfl⟩ := h9
    exact ⟨⟨v1, v2, v3, v4, v5, v6, v7, v8, v9, v10, v11⟩, rfl⟩
  · cases h
abbrev TyBk : Ty := .st (.cons .bool (.cons (.sl TyIn) (.cons (.sl (.int .i64)) .nil)))
abbrev TyFn : Ty := .st (.cons (.int .i64) (.cons (.int .i64) (.cons (.sl TyBk) .nil)))
abbrev TyProg : Ty := .st (.cons (.sl TyFn) .nil)
theorem fits_bk {x : PV} (h : FitsV TyBk x) : ∃ b : Bk, x = pB b := by
  rcases h with ⟨_, c, rfl, x, y, rfl, ⟨b, rfl⟩, z, u, rfl, ⟨l, rfl, hl, hx⟩, z2, u2, rfl, ⟨m, rfl, hm, hy⟩, rfl⟩ | ⟨h, _⟩
  · obtain ⟨q, rfl⟩ := list_of (f := pI) fun y hy => fits_in (x := y) (hx y hy)
    obtain ⟨s, rfl⟩ := list_of (f := fun n : Int => PV.int .i64 n) fun z hz => by
      obtain ⟨n, rfl, _⟩ := fits_int (x := z) (hy z hz)
      exact ⟨n, rfl⟩
    exact ⟨⟨b, q, s⟩, rfl⟩
  · cases h
theorem fits_fn {x : PV} (h : FitsV TyFn x) : ∃ g : Fn, x = pF g := by
  rcases h with ⟨_, c, rfl, x, y, rfl, ⟨a, rfl, _⟩, z, u, rfl, ⟨v, rfl, _⟩, z2, u2, rfl, ⟨m, rfl, hm, hy⟩, rfl⟩ | ⟨h, _⟩
  · obtain ⟨q, rfl⟩ := list_of (f := pB) fun y h => fits_bk (x := y) (hy y h)
    exact ⟨⟨a, v, q⟩, rfl⟩
  · cases h
theorem fits_prog {x : PV} (h : FitsV TyProg x) : ∃ p : List Fn, x = pP p := by
  rcases h with ⟨_, c, rfl, x, y, rfl, ⟨m, rfl, hm, hy⟩, rfl⟩ | ⟨h, _⟩
  · obtain ⟨q, rfl⟩ := list_of (f := pF) fun y h => fits_fn (x := y) (hy y h)
    exact ⟨q, rfl⟩
  · cases h
abbrev TyEd : Ty := .st (.cons (.int .i64) (.cons (.int .i64) (.cons (.int .i64) (.cons (.int .i64) (.cons (.int .i64) (.cons (.int .i64) (.cons (.st (.cons (.int .i64) (.cons (.int .i64) (.cons (.int .i64) (.cons (.int .i64) (.cons (.int .i64) (.cons (.int .i64) (.cons (.int .i64) (.cons (.int .i64) (.cons (.arr 3 (.int .i64)) .nil)))))))))) .nil)))))))
theorem fits_ed {x : PV} (h : FitsV TyEd x) : ∃ e : Ed, x = pE e := by
  rcases h with ⟨_, c, rfl, h⟩ | ⟨h, _⟩
  · obtain ⟨_, _, rfl, ⟨w1, rfl, _⟩, h⟩ := h
    obtain ⟨_, _, rfl, ⟨w2, rfl, _⟩, h⟩ := h
    obtain ⟨_, _, rfl, ⟨w3, rfl, _⟩, h⟩ := h
    obtain ⟨_, _, rfl, ⟨w4, rfl, _⟩, h⟩ := h
    obtain ⟨_, _, rfl, ⟨w5, rfl, _⟩, h⟩ := h
    obtain ⟨_, _, rfl, ⟨w6, rfl, _⟩, h⟩ := h
    obtain ⟨_, _, rfl, h, rfl⟩ := h
    obtain ⟨_, _, rfl, ⟨v1, rfl, _⟩, h⟩ := h
    obtain ⟨_, _, rfl, ⟨v2, rfl, _⟩, h⟩ := h
    obtain ⟨_, _, rfl, ⟨v3, rfl, _⟩, h⟩ := h
    obtain ⟨_, _, rfl, ⟨v4, rfl, _⟩, h⟩ := h
    obtain ⟨_, _, rfl, ⟨v5, rfl, _⟩, h⟩ := h
    obtain ⟨_, _, rfl, ⟨v6, rfl, _⟩, h⟩ := h
    obtain ⟨_, _, rfl, ⟨v7, rfl, _⟩, h⟩ := h
    obtain ⟨_, _, rfl, ⟨v8, rfl, _⟩, h⟩ := h
    obtain ⟨_, _, rfl, h9, rfl⟩ := h
    obtain ⟨_, _, rfl, ⟨v9, rfl, _⟩, h9⟩ := h9
    obtain ⟨_, _, rfl, ⟨v10, rfl, _⟩, h9⟩ := h9
    obtain ⟨_, _, rfl, ⟨v11, rfl, _⟩, rfl⟩ := h9
    exact ⟨⟨w1, w2, w3, w4, w5, w6, ⟨v1, v2, v3, v4, v5, v6, v7, v8, v9, v10, v11⟩⟩, rfl⟩
  · cases h
theorem law_ApplyCounts {x0 x1 : PV} (h0 : FitsV TyProg x0) (h1 : FitsV TyEd x1) : Pure Go.Proofs.Tryz.prog glD 9 [x0, x1] (.bool true) := by
  obtain ⟨v0, rfl⟩ := fits_prog h0
  obtain ⟨v1, rfl⟩ := fits_ed h1
  exact l_ApplyCounts _ _
end Go.Vm
