/- Code. -/
import Derived.Test.YtjegabeechopdaaVnC
import Derived.KernelRfl
import Derived.Test.YtjegabeechopdaaProg
set_option maxRecDepth 100000
set_option linter.unusedSimpArgs false
set_option linter.unusedVariables false
namespace Go.Vm
open Go

/-- bywash/bywashlaw01.BitsChain -/
def c15 : RFn := ⟨(.seq (.region (Nodes.flat none (.op (some 4) (.move (.c (.bool false))) 0
  .nil)) false)
 (.seq (.region (Nodes.flat none (.op (some 10) (.call 67 []) 0
  (.op (some 5) (.move (.t 10)) 0
  .nil))) false)
 (.seq (.seq (.region (Nodes.flat none (.op (some 11) (.move (.t 1)) 0
  (.op (some 12) (.len false (.t 11)) 0
  (.op (some 13) (.bin .gtr (.t 12) (.c (.int .i64 200))) 0
  .nil)))) false)
 (.cond (.t 13)
 (.seq (.region (Nodes.flat none (.op (some 14) (.move (.t 5)) 0
  (.op (some 4) (.move (.t 14)) 0
  .nil))) false)
 .ret)
 .skip))
 (.seq (.region (Nodes.flat none (.op (some 15) (.move (.t 0)) 0
  (.op (some 16) (.bin .and (.t 15) (.c (.int .i64 127))) 0
  (.op (some 17) (.call 68 [(.t 16)]) 0
  (.op (some 6) (.alloc (.agg [(.int .i64 0), (.lit [])])) 0
  (.op none (.store 2 (.t 6) (.t 17)) 0
  .nil)))))) false)
 (.seq (.region (Nodes.flat none (.op (some 7) (.move (.c (.int .i64 0))) 0
  .nil)) false)
 (.seq (.seq (.region (Nodes.flat none (.op (some 8) (.move (.c (.int .i64 0))) 0
  .nil)) false)
 (.block 0 (.loop (.seq (.seq (.region (Nodes.flat none (.op (some 18) (.move (.t 8)) 0
  (.op (some 19) (.move (.t 1)) 0
  (.op (some 20) (.len false (.t 19)) 0
  (.op (some 21) (.bin .lss (.t 18) (.t 20)) 0
  .nil))))) false)
 (.cond (.t 21)
 .skip
 (.exit 0)))
 (.seq (.block 1 (.seq (.region (Nodes.flat none (.op (some 24) (.load (some 2) (.t 6)) 0
  (.op (some 25) (.move (.t 1)) 0
  (.op (some 26) (.move (.t 8)) 0
  (.op (some 27) (.idxAddr 1 (.t 25) (.t 26)) 6
  (.op (some 28) (.load none (.t 27)) 14
  (.op (some 29) (.call 69 [(.t 24), (.t 28)]) 31
  (.op (some 9) (.alloc (.agg [(.int .i64 0), (.lit [])])) 0
  (.op none (.store 2 (.t 9) (.t 29)) 127
  .nil))))))))) true)
 (.seq (.seq (.region (Nodes.flat none (.op (some 30) (.load (some 2) (.t 6)) 0
  (.op (some 31) (.load (some 2) (.t 9)) 0
  (.op (some 32) (.call 70 [(.t 30), (.t 31)]) 3
  (.op (some 33) (.un .not (.t 32)) 7
  (.op (some 34) (.move (.t 33)) 15
  (.grd 34 false
  (.op (some 35) (.load (some 2) (.t 6)) 31
  (.op (some 36) (.load (some 2) (.t 9)) 31
  (.op (some 37) (.call 71 [(.t 35), (.t 36)]) 127
  (.op (some 38) (.load (some 2) (.t 6)) 31
  (.op (some 39) (.move (.t 1)) 31
  (.op (some 40) (.move (.t 8)) 31
  (.op (some 41) (.idxAddr 1 (.t 39) (.t 40)) 1567
  (.op (some 42) (.load none (.t 41)) 3615
  (.op (some 43) (.call 72 [(.t 38), (.t 42)]) 8191
  (.op (some 44) (.move (.t 43)) 16383
  (.grd 44 false
  (.op (some 45) (.move (.t 1)) 32767
  (.op (some 46) (.move (.t 8)) 32767
  (.op (some 47) (.idxAddr 1 (.t 45) (.t 46)) 131071
  (.op (some 48) (.load none (.t 47)) 262143
  (.op (some 49) (.bin .lss (.t 48) (.c (.int .i64 0))) 524287
  .nil)))))
  (.op (some 50) (.pick (.t 44) (.c (.bool true)) (.t 49)) 1048575
  (.op (some 51) (.move (.t 50)) 2097151
  (.grd 51 false
  (.op (some 52) (.move (.t 1)) 4194303
  (.op (some 53) (.move (.t 8)) 4194303
  (.op (some 54) (.idxAddr 1 (.t 52) (.t 53)) 16777215
  (.op (some 55) (.load none (.t 54)) 33554431
  (.op (some 56) (.move (.t 0)) 4194303
  (.op (some 57) (.bin .and (.t 56) (.c (.int .i64 127))) 71303167
  (.op (some 58) (.bin .geq (.t 55) (.t 57)) 268435455
  .nil)))))))
  (.op (some 59) (.pick (.t 51) (.c (.bool true)) (.t 58)) 536870911
  (.op (some 60) (.binb .neq (.t 37) (.t 59)) 1073741823
  .nil))))))))))))))))
  (.op (some 61) (.pick (.t 34) (.c (.bool true)) (.t 60)) 2147483647
  .nil)))))))) true)
 (.cond (.t 61)
 (.seq (.region (Nodes.flat none (.op (some 4) (.move (.c (.bool false))) 0
  .nil)) false)
 .ret)
 .skip))
 (.seq (.seq (.region (Nodes.flat none (.op (some 62) (.load (some 2) (.t 6)) 0
  (.op (some 63) (.load (some 2) (.t 9)) 0
  (.op (some 64) (.call 71 [(.t 62), (.t 63)]) 0
  (.op (some 65) (.un .not (.t 64)) 0
  .nil))))) false)
 (.cond (.t 65)
 (.region (Nodes.flat none (.op (some 66) (.move (.t 7)) 0
  (.op (some 67) (.bin .add (.t 66) (.c (.int .i64 1))) 0
  (.op (some 7) (.move (.t 67)) 0
  .nil)))) false)
 .skip))
 (.region (Nodes.flat none (.op (some 68) (.load (some 2) (.t 9)) 0
  (.op none (.store 2 (.t 6) (.t 68)) 0
  .nil))) false)))))
 (.region (Nodes.flat none (.op (some 22) (.move (.t 8)) 0
  (.op (some 23) (.bin .add (.t 22) (.c (.int .i64 1))) 0
  (.op (some 8) (.move (.t 23)) 0
  .nil)))) false))))))
 (.seq (.region (Nodes.flat none (.op (some 69) (.move (.t 5)) 0
  (.op (some 70) (.move (.t 69)) 1
  (.grd 70 true
  (.op (some 71) (.load (some 2) (.t 6)) 3
  (.op (some 72) (.call 73 [(.t 71)]) 7
  (.op (some 73) (.move (.t 7)) 3
  (.op (some 74) (.bin .eql (.t 72) (.t 73)) 31
  .nil))))
  (.op (some 75) (.pick (.t 70) (.t 74) (.c (.bool false))) 63
  (.op (some 76) (.move (.t 75)) 127
  (.grd 76 true
  (.op (some 77) (.move (.t 7)) 255
  (.op (some 78) (.move (.t 0)) 255
  (.op (some 79) (.bin .and (.t 78) (.c (.int .i64 127))) 767
  (.op (some 80) (.bin .leq (.t 77) (.t 79)) 2047
  .nil))))
  (.op (some 81) (.pick (.t 76) (.t 80) (.c (.bool false))) 4095
  (.op (some 82) (.move (.t 81)) 8191
  (.grd 82 true
  (.op (some 83) (.load (some 2) (.t 6)) 16383
  (.op (some 84) (.move (.t 0)) 16383
  (.op (some 85) (.bin .and (.t 84) (.c (.int .i64 127))) 49151
  (.op (some 86) (.move (.t 1)) 16383
  (.op (some 87) (.call 74 [(.t 85), (.t 86)]) 245759
  (.op (some 88) (.call 71 [(.t 83), (.t 87)]) 524287
  .nil))))))
  (.op (some 89) (.pick (.t 82) (.t 88) (.c (.bool false))) 1048575
  (.op (some 4) (.move (.t 89)) 2097151
  .nil)))))))))))) true)
 .ret))))))),
 [.tmp 4]⟩
theorem b15 : fnOf Go.Proofs.Try.prog (owOf []) 15 = some c15 := by kernel_rfl

end Go.Vm
