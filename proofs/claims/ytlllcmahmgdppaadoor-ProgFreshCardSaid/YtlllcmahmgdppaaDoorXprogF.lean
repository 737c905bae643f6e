/- Laid. -/
import Derived.Test.YtlllcmahmgdppaaDoorVmThree
import Derived.KernelRfl
import Derived.Test.YtlllcmahmgdppaaDoorProg
import Derived.Test.YtlllcmahmgdppaaDoorXprogE
import Derived.Test.YtlllcmahmgdppaaDoorLAll
section
/- Code. -/
set_option maxRecDepth 100000
set_option linter.unusedSimpArgs false
set_option linter.unusedVariables false
namespace Go.Vm
open Go
def c4 : RFn := ⟨(.seq (.region (Nodes.flat none (.op (some 2) (.box (.t 0)) 0
  (.op (some 4) (.move (.c (.bool false))) 0
  .nil))) false)
 (.seq (.region (Nodes.flat none (.op (some 18) (.call 6 []) 0
  (.op (some 5) (.move (.t 18)) 0
  .nil))) false)
 (.seq (.seq (.region (Nodes.flat none (.op (some 19) (.load (some 1) (.t 2)) 0
  (.op (some 20) (.call 7 [(.t 19)]) 0
  (.op (some 21) (.un .not (.t 20)) 0
  (.op (some 22) (.move (.t 21)) 0
  (.grd 22 false
  (.op (some 23) (.load (some 1) (.t 2)) 0
  (.op (some 24) (.call 8 [(.t 23)]) 0
  (.op (some 25) (.un .not (.t 24)) 0
  .nil)))
  (.op (some 26) (.pick (.t 22) (.c (.bool true)) (.t 25)) 0
  (.op (some 27) (.move (.t 26)) 0
  (.grd 27 false
  (.op (some 28) (.fieldAddr 0 (.t 2)) 0
  (.op (some 29) (.load none (.t 28)) 0
  (.op (some 30) (.len false (.t 29)) 0
  (.op (some 31) (.bin .eql (.t 30) (.c (.int .i64 0))) 0
  .nil))))
  (.op (some 32) (.pick (.t 27) (.c (.bool true)) (.t 31)) 0
  .nil)))))))))) false)
 (.cond (.t 32)
 (.seq (.region (Nodes.flat none (.op (some 33) (.move (.t 5)) 0
  (.op (some 4) (.move (.t 33)) 0
  .nil))) false)
 .ret)
 .skip))
 (.seq (.region (Nodes.flat none (.op (some 34) (.move (.t 1)) 0
  (.op (some 35) (.bin .and (.t 34) (.c (.int .i64 65535))) 0
  (.op (some 36) (.fieldAddr 0 (.t 2)) 0
  (.op (some 37) (.load none (.t 36)) 0
  (.op (some 38) (.len false (.t 37)) 0
  (.op (some 39) (.bin .rem (.t 35) (.t 38)) 0
  (.op (some 6) (.move (.t 39)) 0
  .nil)))))))) false)
 (.seq (.region (Nodes.flat none (.op (some 41) (.load (some 1) (.t 2)) 0
  (.op (some 42) (.move (.t 6)) 0
  (.op (some 43) (.call 12 [(.t 41), (.t 42)]) 0
  (.op (some 40) (.move (.t 43)) 0
  (.op (some 44) (.extract 0 (.t 40)) 0
  (.op (some 45) (.extract 1 (.t 40)) 0
  (.op (some 7) (.alloc (.agg [(.int .i64 0), (.int .i64 0), (.lit [])])) 0
  (.op none (.store 3 (.t 7) (.t 44)) 0
  (.op (some 8) (.move (.t 45)) 0
  .nil)))))))))) false)
 (.seq (.seq (.region (Nodes.flat none (.op (some 46) (.move (.t 8)) 0
  (.op (some 47) (.un .not (.t 46)) 0
  .nil))) false)
 (.cond (.t 47)
 (.seq (.region (Nodes.flat none (.op (some 4) (.move (.c (.bool false))) 0
  .nil)) false)
 .ret)
 .skip))
 (.seq (.region (Nodes.flat none (.op (some 9) (.move (.c (.int .i64 0))) 0
  .nil)) false)
 (.seq (.region (Nodes.flat none (.op (some 10) (.move (.c (.int .i64 0))) 0
  .nil)) false)
 (.seq (.seq (.region (Nodes.flat none (.op (some 11) (.move (.c (.int .i64 0))) 0
  .nil)) false)
 (.block 0 (.loop (.seq (.seq (.region (Nodes.flat none (.op (some 48) (.move (.t 11)) 0
  (.op (some 49) (.fieldAddr 2 (.t 7)) 0
  (.op (some 50) (.load none (.t 49)) 0
  (.op (some 51) (.len false (.t 50)) 0
  (.op (some 52) (.bin .lss (.t 48) (.t 51)) 0
  .nil)))))) false)
 (.cond (.t 52)
 .skip
 (.exit 0)))
 (.seq (.block 1 (.seq (.region (Nodes.flat none (.op (some 55) (.load (some 1) (.t 2)) 0
  (.op (some 56) (.move (.t 6)) 0
  (.op (some 57) (.move (.t 11)) 0
  (.op (some 58) (.call 14 [(.t 55), (.t 56), (.t 57)]) 0
  (.op (some 12) (.move (.t 58)) 0
  .nil)))))) false)
 (.seq (.region (Nodes.flat none (.op (some 59) (.move (.t 10)) 0
  (.op (some 60) (.move (.t 12)) 0
  (.op (some 61) (.len false (.t 60)) 0
  (.op (some 62) (.bin .add (.t 59) (.t 61)) 0
  (.op (some 10) (.move (.t 62)) 0
  .nil)))))) false)
 (.seq (.region (Nodes.flat none (.op (some 63) (.move (.t 9)) 0
  (.op (some 64) (.fieldAddr 2 (.t 7)) 0
  (.op (some 65) (.load none (.t 64)) 0
  (.op (some 66) (.move (.t 11)) 0
  (.op (some 67) (.idxAddr 3 (.t 65) (.t 66)) 0
  (.op (some 68) (.fieldAddr 2 (.t 67)) 0
  (.op (some 69) (.load none (.t 68)) 0
  (.op (some 70) (.len false (.t 69)) 0
  (.op (some 71) (.bin .add (.t 63) (.t 70)) 0
  (.op (some 9) (.move (.t 71)) 0
  .nil))))))))))) false)
 (.seq (.region (Nodes.flat none (.op (some 13) (.move (.c (.int .i64 0))) 0
  .nil)) false)
 (.block 2 (.loop (.seq (.seq (.region (Nodes.flat none (.op (some 72) (.move (.t 13)) 0
  (.op (some 73) (.move (.t 12)) 0
  (.op (some 74) (.len false (.t 73)) 0
  (.op (some 75) (.bin .lss (.t 72) (.t 74)) 0
  .nil))))) false)
 (.cond (.t 75)
 .skip
 (.exit 2)))
 (.seq (.block 3 (.seq (.region (Nodes.flat none (.op (some 79) (.load (some 1) (.t 2)) 0
  (.op (some 80) (.move (.t 6)) 0
  (.op (some 81) (.move (.t 12)) 0
  (.op (some 82) (.move (.t 13)) 0
  (.op (some 83) (.idxAddr 1 (.t 81) (.t 82)) 12
  (.op (some 84) (.load none (.t 83)) 28
  (.op (some 85) (.call 13 [(.t 79), (.t 80), (.t 84)]) 63
  (.op (some 78) (.move (.t 85)) 127
  (.op (some 86) (.extract 0 (.t 78)) 255
  (.op (some 87) (.extract 1 (.t 78)) 255
  (.op (some 14) (.alloc (.agg [(.bool false), (.lit []), (.lit [])])) 0
  (.op none (.store 3 (.t 14) (.t 86)) 1535
  (.op (some 15) (.move (.t 87)) 4095
  .nil)))))))))))))) true)
 (.seq (.region (Nodes.flat none (.op (some 16) (.move (.c (.bool false))) 0
  .nil)) false)
 (.seq (.seq (.region (Nodes.flat none (.op (some 17) (.move (.c (.int .i64 0))) 0
  .nil)) false)
 (.block 4 (.loop (.seq (.seq (.region (Nodes.flat none (.op (some 88) (.move (.t 17)) 0
  (.op (some 89) (.fieldAddr 2 (.t 14)) 0
  (.op (some 90) (.load none (.t 89)) 0
  (.op (some 91) (.len false (.t 90)) 0
  (.op (some 92) (.bin .lss (.t 88) (.t 91)) 0
  .nil)))))) false)
 (.cond (.t 92)
 .skip
 (.exit 4)))
 (.seq (.block 5 (.region (Nodes.flat none (.op (some 95) (.move (.t 16)) 0
  (.op (some 96) (.move (.t 95)) 0
  (.grd 96 false
  (.op (some 97) (.fieldAddr 2 (.t 14)) 0
  (.op (some 98) (.load none (.t 97)) 0
  (.op (some 99) (.move (.t 17)) 0
  (.op (some 100) (.idxAddr 1 (.t 98) (.t 99)) 0
  (.op (some 101) (.load none (.t 100)) 0
  (.op (some 102) (.move (.t 11)) 0
  (.op (some 103) (.bin .eql (.t 101) (.t 102)) 0
  .nil)))))))
  (.op (some 104) (.pick (.t 96) (.c (.bool true)) (.t 103)) 0
  (.op (some 16) (.move (.t 104)) 0
  .nil)))))) false))
 (.region (Nodes.flat none (.op (some 93) (.move (.t 17)) 0
  (.op (some 94) (.bin .add (.t 93) (.c (.int .i64 1))) 0
  (.op (some 17) (.move (.t 94)) 0
  .nil)))) false))))))
 (.seq (.region (Nodes.flat none (.op (some 105) (.move (.t 15)) 0
  (.op (some 106) (.un .not (.t 105)) 1
  (.op (some 107) (.move (.t 106)) 3
  (.grd 107 false
  (.op (some 108) (.move (.t 16)) 7
  (.op (some 109) (.un .not (.t 108)) 15
  .nil))
  (.op (some 110) (.pick (.t 107) (.c (.bool true)) (.t 109)) 31
  (.op (some 111) (.move (.t 110)) 63
  (.grd 111 false
  (.op (some 112) (.move (.t 13)) 127
  (.op (some 113) (.bin .gtr (.t 112) (.c (.int .i64 0))) 255
  (.op (some 114) (.move (.t 113)) 511
  (.grd 114 true
  (.op (some 115) (.move (.t 12)) 1023
  (.op (some 116) (.move (.t 13)) 1023
  (.op (some 117) (.idxAddr 1 (.t 115) (.t 116)) 4095
  (.op (some 118) (.load none (.t 117)) 8191
  (.op (some 119) (.move (.t 12)) 1023
  (.op (some 120) (.move (.t 13)) 1023
  (.op (some 121) (.bin .sub (.t 120) (.c (.int .i64 1))) 33791
  (.op (some 122) (.idxAddr 1 (.t 119) (.t 121)) 115711
  (.op (some 123) (.load none (.t 122)) 246783
  (.op (some 124) (.bin .leq (.t 118) (.t 123)) 524287
  .nil))))))))))
  (.op (some 125) (.pick (.t 114) (.t 124) (.c (.bool false))) 1048575
  .nil)))))
  (.op (some 126) (.pick (.t 111) (.c (.bool true)) (.t 125)) 2097151
  .nil))))))))) true)
 (.cond (.t 126)
 (.seq (.region (Nodes.flat none (.op (some 4) (.move (.c (.bool false))) 0
  .nil)) false)
 .ret)
 .skip))))))
 (.region (Nodes.flat none (.op (some 76) (.move (.t 13)) 0
  (.op (some 77) (.bin .add (.t 76) (.c (.int .i64 1))) 0
  (.op (some 13) (.move (.t 77)) 0
  .nil)))) false))))))))))
 (.region (Nodes.flat none (.op (some 53) (.move (.t 11)) 0
  (.op (some 54) (.bin .add (.t 53) (.c (.int .i64 1))) 0
  (.op (some 11) (.move (.t 54)) 0
  .nil)))) false))))))
 (.seq (.region (Nodes.flat none (.op (some 127) (.move (.t 5)) 0
  (.op (some 128) (.move (.t 127)) 0
  (.grd 128 true
  (.op (some 129) (.move (.t 9)) 0
  (.op (some 130) (.move (.t 10)) 0
  (.op (some 131) (.bin .eql (.t 129) (.t 130)) 0
  .nil)))
  (.op (some 132) (.pick (.t 128) (.t 131) (.c (.bool false))) 0
  (.op (some 4) (.move (.t 132)) 0
  .nil)))))) false)
 .ret)))))))))),
 [.tmp 4]⟩
theorem b4 : fnOf Go.Proofs.Tryd.prog (owOf []) 4 = some c4 := by kernel_rfl
end Go.Vm
end
section
/- Walks. -/
set_option maxRecDepth 100000
set_option linter.unusedSimpArgs false
set_option linter.unusedVariables false
namespace Go.Vm
open Go
set_option maxHeartbeats 4000000
end Go.Vm
end
