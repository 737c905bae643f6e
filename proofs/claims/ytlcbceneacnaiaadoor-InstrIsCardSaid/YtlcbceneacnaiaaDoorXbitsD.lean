/- Laid. -/
import Derived.Test.YtlcbceneacnaiaaDoorVmThree
import Derived.KernelRfl
import Derived.Test.YtlcbceneacnaiaaDoorProg
import Derived.Test.YtlcbceneacnaiaaDoorXbitsC
import Derived.Test.YtlcbceneacnaiaaDoorLBitsAll
section
/- Code. -/
set_option maxRecDepth 100000
set_option linter.unusedSimpArgs false
set_option linter.unusedVariables false
namespace Go.Vm
open Go


end Go.Vm

end

section
/- Walks. -/
set_option maxRecDepth 100000
set_option linter.unusedSimpArgs false
set_option linter.unusedVariables false
namespace Go.Vm
open Go

section
variable {gl : Nat → Option PV}
set_option maxHeartbeats 4000000
set_option exponentiation.threshold 2000
variable {x y : PV} {M N : Int} {a b : Nat}
theorem r_bits_Union (hx : Rep x M a) (hy : Rep y N b) : Pure Go.Proofs.Tryd.prog gl 32 [x, y] (mk (max M N) (a ||| b)) := by
  obtain ⟨m, ws, rfl, hw, rfl, rfl⟩ := hx
  obtain ⟨n, us, rfl, hu, rfl, rfl⟩ := hy
  exact p_bits_Union m ws n us hw hu
theorem r_bits_Minus (hx : Rep x M a) (hy : Rep y N b) : Pure Go.Proofs.Tryd.prog gl 41 [x, y] (mk (max M N) (minus a b)) := by
  obtain ⟨m, ws, rfl, hw, rfl, rfl⟩ := hx
  obtain ⟨n, us, rfl, hu, rfl, rfl⟩ := hy
  exact p_bits_Minus m ws n us hw hu
theorem r_bits_Same (hx : Rep x M a) (hy : Rep y N b) : Pure Go.Proofs.Tryd.prog gl 14 [x, y] (.bool (M == N && decide (a = b))) := by
  obtain ⟨m, ws, rfl, hw, rfl, rfl⟩ := hx
  obtain ⟨n, us, rfl, hu, rfl, rfl⟩ := hy
  exact p_bits_Same m ws n us hw hu
theorem r_bits_With (hx : Rep x M a) (i : Int) : Pure Go.Proofs.Tryd.prog gl 40 [x, .int .i64 i] (mk M (vWith M a i)) := by
  obtain ⟨m, ws, rfl, hw, rfl, rfl⟩ := hx
  exact p_bits_With m ws i hw
theorem r_bits_Without (hx : Rep x M a) (i : Int) : Pure Go.Proofs.Tryd.prog gl 31 [x, .int .i64 i] (mk M (vWout M a i)) := by
  obtain ⟨m, ws, rfl, hw, rfl, rfl⟩ := hx
  exact p_bits_Without m ws i hw
theorem r_bits_Has (hx : Rep x M a) (i : Int) : Pure Go.Proofs.Tryd.prog gl 12 [x, .int .i64 i] (.bool (decide (0 ≤ i ∧ i < M) && a.testBit i.toNat)) := by
  obtain ⟨m, ws, rfl, hw, rfl, rfl⟩ := hx
  have := p_bits_Has (gl := gl) m ws i hw
  have e : (bSane m ws && decide (0 ≤ i) && decide (i < m) && (val ws).testBit i.toNat) = (decide (0 ≤ i ∧ i < nN m ws) && (vN m ws).testBit i.toNat) := by
    cases hb : bSane m ws with
    | true => rw [sane_nN hb, sane_vN hb, Bool.decide_and]; simp
    | false => rw [unsane_nN hb, unsane_vN hb]; simp
  rwa [e] at this
theorem r_bits_Sane (h : Ok M a) : Pure Go.Proofs.Tryd.prog gl 9 [mk M a] (.bool true) := by
  have := p_bits_Sane (gl := gl) M (words (wN M) a) (words_lt _ _)
  rwa [mk_sane h.r.1 h.r.2 h.lt] at this
end

end Go.Vm

end
