/- Laid. -/
import Derived.Test.YtjegabeechopdaaVmThree
import Derived.KernelRfl
import Derived.Test.YtjegabeechopdaaProg
/- Code. -/
set_option maxRecDepth 100000
set_option linter.unusedSimpArgs false
set_option linter.unusedVariables false
namespace Go.Vm
open Go

/-- bywash/bywashref01.pick -/
def c113 : RFn := ⟨(.seq (.region (Nodes.flat none (.op (some 3) (.box (.t 0)) 0
  (.op (some 4) (.box (.t 1)) 0
  (.op (some 6) (.alloc (.agg [(.int .i64 0), (.lit [])])) 0
  .nil)))) false)
 (.seq (.region (Nodes.flat none (.op (some 14) (.load (some 2) (.t 3)) 0
  (.op (some 15) (.call 115 [(.t 14)]) 0
  (.op (some 7) (.move (.t 15)) 0
  .nil)))) false)
 (.seq (.region (Nodes.flat none (.op (some 16) (.load (some 2) (.t 4)) 0
  (.op (some 17) (.call 115 [(.t 16)]) 0
  (.op (some 8) (.move (.t 17)) 0
  .nil)))) false)
 (.seq (.region (Nodes.flat none (.op (some 18) (.move (.t 7)) 0
  (.op (some 19) (.move (.t 8)) 0
  (.op (some 20) (.mm true (.t 18) [(.t 19)]) 0
  (.op (some 9) (.move (.t 20)) 0
  .nil))))) false)
 (.seq (.region (Nodes.flat none (.op (some 10) (.move (.c (.lit []))) 0
  .nil)) false)
 (.seq (.seq (.region (Nodes.flat none (.op (some 11) (.move (.c (.int .i64 0))) 0
  .nil)) false)
 (.block 0 (.loop (.seq (.seq (.region (Nodes.flat none (.op (some 21) (.move (.t 11)) 0
  (.op (some 22) (.move (.t 9)) 0
  (.op (some 23) (.bin .lss (.t 21) (.t 22)) 0
  .nil)))) false)
 (.cond (.t 23)
 .skip
 (.exit 0)))
 (.seq (.block 1 (.seq (.region (Nodes.flat none (.op (some 26) (.move (.t 11)) 0
  (.op (some 27) (.move (.t 7)) 0
  (.op (some 28) (.bin .lss (.t 26) (.t 27)) 0
  (.op (some 29) (.move (.t 28)) 0
  (.grd 29 true
  (.op (some 30) (.fieldAddr 1 (.t 3)) 0
  (.op (some 31) (.load none (.t 30)) 0
  (.op (some 32) (.move (.t 11)) 0
  (.op (some 33) (.call 118 [(.t 31), (.t 32)]) 0
  .nil))))
  (.op (some 34) (.pick (.t 29) (.t 33) (.c (.bool false))) 0
  (.op (some 12) (.move (.t 34)) 0
  .nil)))))))) false)
 (.seq (.region (Nodes.flat none (.op (some 35) (.move (.t 11)) 0
  (.op (some 36) (.move (.t 8)) 0
  (.op (some 37) (.bin .lss (.t 35) (.t 36)) 0
  (.op (some 38) (.move (.t 37)) 0
  (.grd 38 true
  (.op (some 39) (.fieldAddr 1 (.t 4)) 0
  (.op (some 40) (.load none (.t 39)) 0
  (.op (some 41) (.move (.t 11)) 0
  (.op (some 42) (.call 118 [(.t 40), (.t 41)]) 0
  .nil))))
  (.op (some 43) (.pick (.t 38) (.t 42) (.c (.bool false))) 0
  (.op (some 13) (.move (.t 43)) 0
  .nil)))))))) false)
 (.seq (.region (Nodes.flat none (.op (some 44) (.move (.t 2)) 0
  (.op (some 45) (.bin .eql (.t 44) (.c (.int .i64 0))) 0
  (.op (some 46) (.move (.t 45)) 0
  (.grd 46 true
  (.op (some 47) (.move (.t 12)) 0
  (.op (some 48) (.move (.t 47)) 0
  (.grd 48 false
  (.op (some 49) (.move (.t 13)) 0
  .nil)
  (.op (some 50) (.pick (.t 48) (.c (.bool true)) (.t 49)) 0
  .nil))))
  (.op (some 51) (.pick (.t 46) (.t 50) (.c (.bool false))) 0
  (.op (some 52) (.move (.t 51)) 0
  (.grd 52 false
  (.op (some 53) (.move (.t 2)) 0
  (.op (some 54) (.bin .eql (.t 53) (.c (.int .i64 1))) 0
  (.op (some 55) (.move (.t 54)) 0
  (.grd 55 true
  (.op (some 56) (.move (.t 12)) 0
  .nil)
  (.op (some 57) (.pick (.t 55) (.t 56) (.c (.bool false))) 0
  (.op (some 58) (.move (.t 57)) 0
  (.grd 58 true
  (.op (some 59) (.move (.t 13)) 0
  (.op (some 60) (.un .not (.t 59)) 0
  .nil))
  (.op (some 61) (.pick (.t 58) (.t 60) (.c (.bool false))) 0
  .nil))))))))
  (.op (some 62) (.pick (.t 52) (.c (.bool true)) (.t 61)) 0
  (.op (some 63) (.move (.t 62)) 0
  (.grd 63 false
  (.op (some 64) (.move (.t 2)) 0
  (.op (some 65) (.bin .eql (.t 64) (.c (.int .i64 2))) 0
  (.op (some 66) (.move (.t 65)) 0
  (.grd 66 true
  (.op (some 67) (.move (.t 12)) 0
  .nil)
  (.op (some 68) (.pick (.t 66) (.t 67) (.c (.bool false))) 0
  (.op (some 69) (.move (.t 68)) 0
  (.grd 69 true
  (.op (some 70) (.move (.t 13)) 0
  .nil)
  (.op (some 71) (.pick (.t 69) (.t 70) (.c (.bool false))) 0
  .nil))))))))
  (.op (some 72) (.pick (.t 63) (.c (.bool true)) (.t 71)) 0
  .nil)))))))))))) false)
 (.cond (.t 72)
 (.region (Nodes.flat none (.op (some 73) (.move (.t 10)) 0
  (.op (some 74) (.move (.t 11)) 0
  (.op (some 75) (.bslice false 1 1 (.int .i64 0) [(0, (.t 74))]) 0
  (.op (some 76) (.append 1 (.int .i64 0) (.t 73) (.t 75)) 0
  (.op (some 10) (.move (.t 76)) 0
  .nil)))))) false)
 .skip)))))
 (.region (Nodes.flat none (.op (some 24) (.move (.t 11)) 0
  (.op (some 25) (.bin .add (.t 24) (.c (.int .i64 1))) 0
  (.op (some 11) (.move (.t 25)) 0
  .nil)))) false))))))
 (.seq (.region (Nodes.flat none (.op (some 77) (.move (.t 9)) 0
  (.op (some 78) (.move (.t 10)) 0
  (.op (some 79) (.call 119 [(.t 77), (.t 78)]) 0
  (.op none (.store 2 (.t 6) (.t 79)) 0
  .nil))))) false)
 .ret))))))),
 [.cell (some 2) 6]⟩
theorem b113 : fnOf Go.Proofs.Try.prog (owOf [(11, 2)]) 113 = some c113 := by kernel_rfl

end Go.Vm
