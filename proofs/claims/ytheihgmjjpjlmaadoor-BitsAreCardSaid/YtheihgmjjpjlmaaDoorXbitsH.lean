/- Laid. -/
import Derived.Test.YtheihgmjjpjlmaaDoorVmThree
import Derived.KernelRfl
import Derived.Test.YtheihgmjjpjlmaaDoorProg
import Derived.Test.YtheihgmjjpjlmaaDoorXbitsG
section
/- Code. -/
set_option maxRecDepth 100000
set_option linter.unusedSimpArgs false
set_option linter.unusedVariables false
namespace Go.Vm
open Go
end Go.Vm
end
section
/- Walks. -/
set_option maxRecDepth 100000
set_option linter.unusedSimpArgs false
set_option linter.unusedVariables false
namespace Go.Vm
open Go
section
variable {gl : Nat → Option PV}
set_option maxHeartbeats 4000000
set_option exponentiation.threshold 2000
theorem p_ref_bit2 (n : Int) (ws : List Nat) (hw : W64 ws) (i : Int) (h0 : 0 ≤ i) (h1 : i < nN n ws) : Pure Go.Proofs.Tryd.prog gl 35 [.sl (u64s ws), .int .i64 i] (.bool ((vN n ws).testBit i.toNat)) := by
  cases hs : bSane n ws with
  | false => rw [unsane_nN hs] at h1; omega
  | true =>
    have h4 := bSane_iff.1 hs
    rw [sane_nN hs] at h1
    rw [sane_vN hs]
    exact p_ref_bit ws i hw ⟨h0, by have := h4.2.2.1; unfold wN at this; omega⟩ (by have := h4.2.2.1; unfold wN at this; omega)
end
end Go.Vm
end
