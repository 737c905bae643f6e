/- Laid. -/
import Derived.Test.YtlcbceneacnaiaaGreatDoorVmThree
import Derived.KernelRfl
import Derived.Test.YtlcbceneacnaiaaGreatDoorProg
import Derived.Test.YtlcbceneacnaiaaGreatDoorXbitsC
import Derived.Test.YtlcbceneacnaiaaGreatDoorLBitsAll
section
/- Code. -/
set_option maxRecDepth 100000
set_option linter.unusedSimpArgs false
set_option linter.unusedVariables false
namespace Go.Vm
open Go
end Go.Vm
end
section
/- Walks. -/
set_option maxRecDepth 100000
set_option linter.unusedSimpArgs false
set_option linter.unusedVariables false
namespace Go.Vm
open Go
section
variable {gl : Nat → Option PV}
set_option maxHeartbeats 4000000
set_option exponentiation.threshold 2000
variable {x y : PV} {M N : Int} {a b : Nat}
theorem r_bits_Union (hx : Rep x M a) (hy : Rep y N b) : Pure Go.Proofs.Tryz.prog gl 16 [x, y] (mk (max M N) (a ||| b)) := by
  obtain ⟨m, ws, rfl, hw, rfl, rfl⟩ := hx
  obtain ⟨n, us, rfl, hu, rfl, rfl⟩ := hy
  exact p_bits_Union m ws n us hw hu
theorem r_bits_Minus (hx : Rep x M a) (hy : Rep y N b) : Pure Go.Proofs.Tryz.prog gl 49 [x, y] (mk (max M N) (minus a b)) := by
  obtain ⟨m, ws, rfl, hw, rfl, rfl⟩ := hx
  obtain ⟨n, us, rfl, hu, rfl, rfl⟩ := hy
  exact p_bits_Minus m ws n us hw hu
theorem r_bits_Leq (hx : Rep x M a) (hy : Rep y N b) : Pure Go.Proofs.Tryz.prog gl 21 [x, y] (.bool (decide (minus a b = 0))) := by
  obtain ⟨m, ws, rfl, hw, rfl, rfl⟩ := hx
  obtain ⟨n, us, rfl, hu, rfl, rfl⟩ := hy
  exact p_bits_Leq m ws n us hw hu
theorem r_bits_With (hx : Rep x M a) (i : Int) : Pure Go.Proofs.Tryz.prog gl 50 [x, .int .i64 i] (mk M (vWith M a i)) := by
  obtain ⟨m, ws, rfl, hw, rfl, rfl⟩ := hx
  exact p_bits_With m ws i hw
theorem r_bits_Without (hx : Rep x M a) (i : Int) : Pure Go.Proofs.Tryz.prog gl 52 [x, .int .i64 i] (mk M (vWout M a i)) := by
  obtain ⟨m, ws, rfl, hw, rfl, rfl⟩ := hx
  exact p_bits_Without m ws i hw
end
end Go.Vm
end
