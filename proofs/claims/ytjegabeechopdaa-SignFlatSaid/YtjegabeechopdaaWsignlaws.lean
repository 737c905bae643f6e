/- Arguments of the laws. -/
import Derived.Test.YtjegabeechopdaaLArgs
import Derived.Test.YtjegabeechopdaaWsignF
namespace Go.Vm
open Go
section
variable {gl : Nat → Option PV} {x0 x1 x2 x3 : PV}
theorem fits_r {x : PV} (h : FitsV (.int .i64) x) : ∃ n, x = .int .i64 n ∧ i64r n := by
  obtain ⟨n, h, hw⟩ := fits_int h
  exact ⟨n, h, i64_wf hw⟩
theorem law_SignIs (h0 : FitsV (.int .i64) x0) (h1 : FitsV (.int .i64) x1) (h2 : FitsV (.int .i64) x2) (h3 : FitsV (.st (.cons (.int .i64) (.cons (.int .i64) .nil))) x3) : Pure Go.Proofs.Try.prog gl 14 [x0, x1, x2, x3] (.bool true) := by
  obtain ⟨a, rfl, ha⟩ := fits_r h0
  obtain ⟨b, rfl, hb⟩ := fits_r h1
  obtain ⟨c, rfl, hc⟩ := fits_r h2
  obtain ⟨k, v, rfl, _⟩ := fits_val h3
  exact l_SignIs _ _ _ _ _ ha hb hc
theorem law_SignRises (h0 : FitsV (.int .i64) x0) (h1 : FitsV (.int .i64) x1) (h2 : FitsV (.int .i64) x2) : Pure Go.Proofs.Try.prog gl 12 [x0, x1, x2] (.bool true) := by
  obtain ⟨a, rfl, ha⟩ := fits_r h0
  obtain ⟨b, rfl, hb⟩ := fits_r h1
  obtain ⟨c, rfl, hc⟩ := fits_r h2
  exact l_SignRises _ _ _ ha hb hc
theorem law_SignList (h0 : FitsV (.int .i64) x0) : Pure Go.Proofs.Try.prog gl 11 [x0] (.bool true) := by
  obtain ⟨a, rfl, ha⟩ := fits_r h0
  exact l_SignList _ ha
theorem law_SignTells (h0 : FitsV (.int .i64) x0) (h1 : FitsV (.int .i64) x1) : Pure Go.Proofs.Try.prog gl 10 [x0, x1] (.bool true) := by
  obtain ⟨a, rfl, ha⟩ := fits_r h0
  obtain ⟨b, rfl, hb⟩ := fits_r h1
  exact l_SignTells _ _ ha hb
theorem law_SignFlat (h0 : FitsV (.st (.cons (.int .i64) (.cons (.int .i64) .nil))) x0) (h1 : FitsV (.st (.cons (.int .i64) (.cons (.int .i64) .nil))) x1) : Pure Go.Proofs.Try.prog gl 13 [x0, x1] (.bool true) := by
  obtain ⟨k, v, rfl, _⟩ := fits_val h0
  obtain ⟨k2, v2, rfl, _⟩ := fits_val h1
  exact l_SignFlat ..
end

end Go.Vm
