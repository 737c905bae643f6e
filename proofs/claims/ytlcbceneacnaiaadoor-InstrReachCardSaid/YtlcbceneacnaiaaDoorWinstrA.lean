/- Laid. -/
import Derived.Test.YtlcbceneacnaiaaDoorCinstrA
import Derived.Test.YtlcbceneacnaiaaDoorWflatC
import Derived.Test.YtlcbceneacnaiaaDoorLInstr
/- Walks. -/
set_option maxRecDepth 100000
set_option linter.unusedSimpArgs false
set_option linter.unusedVariables false
namespace Go.Vm
open Go

set_option maxHeartbeats 4000000
def glD : Nat → Option PV := fun n => bif n == 0 then some (.fptr asciiL) else none
theorem p_fields : Pure Go.Proofs.Tryd.prog glD 51 [.str ⟨#[99, 111, 110, 115, 116, 32, 99, 111, 112, 121, 32, 110, 101, 103, 32, 97, 100, 100, 32, 115, 117, 98, 32, 109, 117, 108, 32, 105, 110, 112, 117, 116, 32, 99, 97, 108, 108, 32, 117, 115, 101, 32, 114, 101, 116]⟩] (.sl (nmL.map .str)) := by
  have hT : TabOk Go.Proofs.Tryd.prog [(51, c51)] := ⟨⟨_, b51⟩, by kernel_rfl, trivial⟩
  exact clc_sound hmix hT (k := 60) (d := 1) (by kernel_rfl)

end Go.Vm
