/- Laid. -/
import Derived.Test.YtlllcmahmgdppaaDoorVmThree
import Derived.KernelRfl
import Derived.Test.YtlllcmahmgdppaaDoorProg
import Derived.Test.YtlllcmahmgdppaaDoorXerrB
import Derived.Test.YtlllcmahmgdppaaDoorLAll
section
/- Code. -/
set_option maxRecDepth 100000
set_option linter.unusedSimpArgs false
set_option linter.unusedVariables false
namespace Go.Vm
open Go
def c51 : RFn := ⟨(.seq (.region (Nodes.flat none (.op (some 2) (.move (.c (.lit []))) 0
  .nil)) false)
 (.seq (.region (Nodes.flat none (.op (some 3) (.move (.c (.int .i64 0))) 0
  .nil)) false)
 (.seq (.region (Nodes.flat none (.op (some 4) (.move (.c (.int .i64 1))) 0
  .nil)) false)
 (.seq (.region (Nodes.flat none (.op (some 5) (.move (.c (.int .u8 0))) 0
  .nil)) false)
 (.seq (.seq (.region (Nodes.flat none (.op (some 6) (.move (.c (.int .i64 0))) 0
  .nil)) false)
 (.block 0 (.loop (.seq (.seq (.region (Nodes.flat none (.op (some 13) (.move (.t 6)) 0
  (.op (some 14) (.move (.t 0)) 0
  (.op (some 15) (.len true (.t 14)) 0
  (.op (some 16) (.bin .lss (.t 13) (.t 15)) 0
  .nil))))) false)
 (.cond (.t 16)
 .skip
 (.exit 0)))
 (.seq (.block 1 (.seq (.region (Nodes.flat none (.op (some 19) (.move (.t 0)) 0
  (.op (some 20) (.move (.t 6)) 0
  (.op (some 21) (.prim .sidx [(.t 19), (.t 20)]) 0
  (.op (some 7) (.move (.t 21)) 0
  .nil))))) false)
 (.seq (.region (Nodes.flat none (.op (some 22) (.move (.t 5)) 0
  (.op (some 23) (.move (.t 7)) 0
  (.op (some 24) (.bin .or (.t 22) (.t 23)) 0
  (.op (some 5) (.move (.t 24)) 0
  .nil))))) false)
 (.seq (.region (Nodes.flat none (.op (some 25) (.move (.t 7)) 0
  (.op (some 26) (.idxAddrA 256 1 (.g 1) (.t 25)) 0
  (.op (some 27) (.load none (.t 26)) 0
  (.op (some 28) (.conv .i64 (.t 27)) 0
  (.op (some 8) (.move (.t 28)) 0
  .nil)))))) false)
 (.seq (.region (Nodes.flat none (.op (some 29) (.move (.t 3)) 0
  (.op (some 30) (.move (.t 4)) 0
  (.op (some 31) (.move (.t 8)) 0
  (.op (some 32) (.prim .compl [(.t 31)]) 0
  (.op (some 33) (.bin .and (.t 30) (.t 32)) 0
  (.op (some 34) (.bin .add (.t 29) (.t 33)) 0
  (.op (some 3) (.move (.t 34)) 0
  .nil)))))))) false)
 (.region (Nodes.flat none (.op (some 35) (.move (.t 8)) 0
  (.op (some 4) (.move (.t 35)) 0
  .nil))) false))))))
 (.region (Nodes.flat none (.op (some 17) (.move (.t 6)) 0
  (.op (some 18) (.bin .add (.t 17) (.c (.int .i64 1))) 0
  (.op (some 6) (.move (.t 18)) 0
  .nil)))) false))))))
 (.seq (.seq (.region (Nodes.flat none (.op (some 36) (.move (.t 5)) 0
  (.op (some 37) (.bin .geq (.t 36) (.c (.int .u8 128))) 0
  .nil))) false)
 (.cond (.t 37)
 (.seq (.region (Nodes.flat none (.op (some 38) (.move (.t 0)) 0
  (.op (some 39) (.call 56 [(.t 38), (.c (.fn 57 []))]) 0
  (.op (some 2) (.move (.t 39)) 0
  .nil)))) false)
 .ret)
 .skip))
 (.seq (.region (Nodes.flat none (.op (some 40) (.move (.t 3)) 0
  (.op (some 41) (.mkslice 1 (.str ⟨#[]⟩) (.t 40)) 0
  (.op (some 9) (.move (.t 41)) 0
  .nil)))) false)
 (.seq (.region (Nodes.flat none (.op (some 10) (.move (.c (.int .i64 0))) 0
  .nil)) false)
 (.seq (.region (Nodes.flat none (.op (some 11) (.move (.c (.int .i64 0))) 0
  .nil)) false)
 (.seq (.region (Nodes.flat none (.op (some 12) (.move (.c (.int .i64 0))) 0
  .nil)) false)
 (.seq (.block 2 (.loop (.seq (.seq (.region (Nodes.flat none (.op (some 42) (.move (.t 12)) 0
  (.op (some 43) (.move (.t 0)) 0
  (.op (some 44) (.len true (.t 43)) 0
  (.op (some 45) (.bin .lss (.t 42) (.t 44)) 0
  (.op (some 46) (.move (.t 45)) 0
  (.grd 46 true
  (.op (some 47) (.move (.t 0)) 0
  (.op (some 48) (.move (.t 12)) 0
  (.op (some 49) (.prim .sidx [(.t 47), (.t 48)]) 0
  (.op (some 50) (.idxAddrA 256 1 (.g 1) (.t 49)) 0
  (.op (some 51) (.load none (.t 50)) 0
  (.op (some 52) (.bin .neq (.t 51) (.c (.int .u8 0))) 0
  .nil))))))
  (.op (some 53) (.pick (.t 46) (.t 52) (.c (.bool false))) 0
  .nil)))))))) false)
 (.cond (.t 53)
 .skip
 (.exit 2)))
 (.block 3 (.region (Nodes.flat none (.op (some 54) (.move (.t 12)) 0
  (.op (some 55) (.bin .add (.t 54) (.c (.int .i64 1))) 0
  (.op (some 12) (.move (.t 55)) 0
  .nil)))) false)))))
 (.seq (.region (Nodes.flat none (.op (some 56) (.move (.t 12)) 0
  (.op (some 11) (.move (.t 56)) 0
  .nil))) false)
 (.seq (.block 4 (.loop (.seq (.seq (.region (Nodes.flat none (.op (some 57) (.move (.t 12)) 0
  (.op (some 58) (.move (.t 0)) 0
  (.op (some 59) (.len true (.t 58)) 0
  (.op (some 60) (.bin .lss (.t 57) (.t 59)) 0
  .nil))))) false)
 (.cond (.t 60)
 .skip
 (.exit 4)))
 (.block 5 (.seq (.seq (.region (Nodes.flat none (.op (some 61) (.move (.t 0)) 0
  (.op (some 62) (.move (.t 12)) 0
  (.op (some 63) (.prim .sidx [(.t 61), (.t 62)]) 0
  (.op (some 64) (.idxAddrA 256 1 (.g 1) (.t 63)) 0
  (.op (some 65) (.load none (.t 64)) 0
  (.op (some 66) (.bin .eql (.t 65) (.c (.int .u8 0))) 0
  .nil))))))) false)
 (.cond (.t 66)
 (.seq (.region (Nodes.flat none (.op (some 67) (.move (.t 12)) 0
  (.op (some 68) (.bin .add (.t 67) (.c (.int .i64 1))) 0
  (.op (some 12) (.move (.t 68)) 0
  .nil)))) false)
 (.exit 5))
 .skip))
 (.seq (.region (Nodes.flat none (.op (some 69) (.move (.t 9)) 0
  (.op (some 70) (.move (.t 10)) 0
  (.op (some 71) (.move (.t 0)) 0
  (.op (some 72) (.move (.t 11)) 0
  (.op (some 73) (.move (.t 12)) 0
  (.op (some 74) (.prim (.sliceStr true true) [(.t 71), (.t 72), (.t 73)]) 0
  (.op (some 75) (.idxAddr 1 (.t 69) (.t 70)) 0
  (.op none (.store 1 (.t 75) (.t 74)) 0
  .nil))))))))) false)
 (.seq (.region (Nodes.flat none (.op (some 76) (.move (.t 10)) 0
  (.op (some 77) (.bin .add (.t 76) (.c (.int .i64 1))) 0
  (.op (some 10) (.move (.t 77)) 0
  .nil)))) false)
 (.seq (.region (Nodes.flat none (.op (some 78) (.move (.t 12)) 0
  (.op (some 79) (.bin .add (.t 78) (.c (.int .i64 1))) 0
  (.op (some 12) (.move (.t 79)) 0
  .nil)))) false)
 (.seq (.block 6 (.loop (.seq (.seq (.region (Nodes.flat none (.op (some 80) (.move (.t 12)) 0
  (.op (some 81) (.move (.t 0)) 0
  (.op (some 82) (.len true (.t 81)) 0
  (.op (some 83) (.bin .lss (.t 80) (.t 82)) 0
  (.op (some 84) (.move (.t 83)) 0
  (.grd 84 true
  (.op (some 85) (.move (.t 0)) 0
  (.op (some 86) (.move (.t 12)) 0
  (.op (some 87) (.prim .sidx [(.t 85), (.t 86)]) 0
  (.op (some 88) (.idxAddrA 256 1 (.g 1) (.t 87)) 0
  (.op (some 89) (.load none (.t 88)) 0
  (.op (some 90) (.bin .neq (.t 89) (.c (.int .u8 0))) 0
  .nil))))))
  (.op (some 91) (.pick (.t 84) (.t 90) (.c (.bool false))) 0
  .nil)))))))) false)
 (.cond (.t 91)
 .skip
 (.exit 6)))
 (.block 7 (.region (Nodes.flat none (.op (some 92) (.move (.t 12)) 0
  (.op (some 93) (.bin .add (.t 92) (.c (.int .i64 1))) 0
  (.op (some 12) (.move (.t 93)) 0
  .nil)))) false)))))
 (.region (Nodes.flat none (.op (some 94) (.move (.t 12)) 0
  (.op (some 11) (.move (.t 94)) 0
  .nil))) false))))))))))
 (.seq (.seq (.region (Nodes.flat none (.op (some 95) (.move (.t 11)) 0
  (.op (some 96) (.move (.t 0)) 0
  (.op (some 97) (.len true (.t 96)) 0
  (.op (some 98) (.bin .lss (.t 95) (.t 97)) 0
  .nil))))) false)
 (.cond (.t 98)
 (.region (Nodes.flat none (.op (some 99) (.move (.t 9)) 0
  (.op (some 100) (.move (.t 10)) 0
  (.op (some 101) (.move (.t 0)) 0
  (.op (some 102) (.move (.t 11)) 0
  (.op (some 103) (.prim (.sliceStr true false) [(.t 101), (.t 102)]) 0
  (.op (some 104) (.idxAddr 1 (.t 99) (.t 100)) 0
  (.op none (.store 1 (.t 104) (.t 103)) 0
  .nil)))))))) false)
 .skip))
 (.seq (.region (Nodes.flat none (.op (some 105) (.move (.t 9)) 0
  (.op (some 2) (.move (.t 105)) 0
  .nil))) false)
 .ret))))))))))))))),
 [.tmp 2]⟩
theorem b51 : fnOf Go.Proofs.Tryd.prog (owOf []) 51 = some c51 := by kernel_rfl
end Go.Vm
end
section
/- Walks. -/
set_option maxRecDepth 100000
set_option linter.unusedSimpArgs false
set_option linter.unusedVariables false
namespace Go.Vm
open Go
set_option maxHeartbeats 4000000
def glD : Nat → Option PV := fun n => bif n == 1 then some (.fptr asciiL) else bif n == 0 then some (.fptr [.raw errH]) else none
theorem p_fields : Pure Go.Proofs.Tryd.prog glD 51 [.str ⟨#[99, 111, 110, 115, 116, 32, 99, 111, 112, 121, 32, 110, 101, 103, 32, 97, 100, 100, 32, 115, 117, 98, 32, 109, 117, 108, 32, 105, 110, 112, 117, 116, 32, 99, 97, 108, 108, 32, 117, 115, 101, 32, 114, 101, 116]⟩] (.sl (nmL.map .str)) := by
  have hT : TabOk Go.Proofs.Tryd.prog [(51, c51)] := ⟨⟨_, b51⟩, by kernel_rfl, trivial⟩
  exact clc_sound hmix hT (k := 60) (d := 1) (by kernel_rfl)
end Go.Vm
end
