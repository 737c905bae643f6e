/- Code. -/
import Derived.Test.YtjegabeechopdaaVnC
import Derived.KernelRfl
import Derived.Test.YtjegabeechopdaaProg
set_option maxRecDepth 100000
set_option linter.unusedSimpArgs false
set_option linter.unusedVariables false
namespace Go.Vm
open Go

/-- bywash/bywashlaw03.SignMakes -/
def c9 : RFn := ⟨(.seq (.region (Nodes.flat none (.op (some 4) (.move (.c (.bool false))) 0
  .nil)) false)
 (.seq (.region (Nodes.flat none (.op (some 11) (.call 43 []) 0
  (.op (some 5) (.move (.t 11)) 0
  .nil))) false)
 (.seq (.region (Nodes.flat none (.op (some 6) (.move (.c (.int .i64 0))) 0
  .nil)) false)
 (.seq (.region (Nodes.flat none (.op (some 7) (.move (.c (.int .i64 0))) 0
  .nil)) false)
 (.seq (.region (Nodes.flat none (.op (some 8) (.move (.c (.int .i64 0))) 0
  .nil)) false)
 (.seq (.seq (.region (Nodes.flat none (.op (some 9) (.move (.c (.int .i64 (-2)))) 0
  .nil)) false)
 (.block 0 (.loop (.seq (.seq (.region (Nodes.flat none (.op (some 12) (.move (.t 9)) 0
  (.op (some 13) (.bin .leq (.t 12) (.c (.int .i64 2))) 0
  .nil))) false)
 (.cond (.t 13)
 .skip
 (.exit 0)))
 (.seq (.block 1 (.seq (.region (Nodes.flat none (.op (some 10) (.move (.c (.int .i64 (-2)))) 0
  .nil)) false)
 (.block 2 (.loop (.seq (.seq (.region (Nodes.flat none (.op (some 16) (.move (.t 10)) 0
  (.op (some 17) (.bin .leq (.t 16) (.c (.int .i64 2))) 0
  .nil))) false)
 (.cond (.t 17)
 .skip
 (.exit 2)))
 (.seq (.block 3 (.seq (.region (Nodes.flat none (.op (some 20) (.move (.t 9)) 0
  (.op (some 21) (.call 45 [(.t 20)]) 0
  (.op (some 22) (.move (.t 0)) 0
  (.op (some 23) (.call 44 [(.t 21), (.t 22)]) 0
  (.op (some 24) (.move (.t 23)) 0
  (.grd 24 true
  (.op (some 25) (.move (.t 10)) 0
  (.op (some 26) (.call 45 [(.t 25)]) 0
  (.op (some 27) (.move (.t 1)) 0
  (.op (some 28) (.call 44 [(.t 26), (.t 27)]) 0
  .nil))))
  (.op (some 29) (.pick (.t 24) (.t 28) (.c (.bool false))) 0
  .nil)))))))) false)
 (.cond (.t 29)
 (.seq (.region (Nodes.flat none (.op (some 30) (.move (.t 6)) 0
  (.op (some 31) (.move (.t 9)) 0
  (.op (some 32) (.move (.t 10)) 0
  (.op (some 33) (.bin .add (.t 31) (.t 32)) 0
  (.op (some 34) (.call 45 [(.t 33)]) 0
  (.op (some 35) (.call 46 [(.t 30), (.t 34)]) 0
  (.op (some 6) (.move (.t 35)) 0
  .nil)))))))) false)
 (.seq (.region (Nodes.flat none (.op (some 36) (.move (.t 7)) 0
  (.op (some 37) (.move (.t 9)) 0
  (.op (some 38) (.move (.t 10)) 0
  (.op (some 39) (.bin .mul (.t 37) (.t 38)) 0
  (.op (some 40) (.call 45 [(.t 39)]) 0
  (.op (some 41) (.call 46 [(.t 36), (.t 40)]) 0
  (.op (some 7) (.move (.t 41)) 0
  .nil)))))))) false)
 (.region (Nodes.flat none (.op (some 42) (.move (.t 8)) 0
  (.op (some 43) (.move (.t 9)) 0
  (.op (some 44) (.move (.t 10)) 0
  (.op (some 45) (.bin .sub (.t 43) (.t 44)) 0
  (.op (some 46) (.call 45 [(.t 45)]) 0
  (.op (some 47) (.call 46 [(.t 42), (.t 46)]) 0
  (.op (some 8) (.move (.t 47)) 0
  .nil)))))))) false)))
 .skip)))
 (.region (Nodes.flat none (.op (some 18) (.move (.t 10)) 0
  (.op (some 19) (.bin .add (.t 18) (.c (.int .i64 1))) 0
  (.op (some 10) (.move (.t 19)) 0
  .nil)))) false)))))))
 (.region (Nodes.flat none (.op (some 14) (.move (.t 9)) 0
  (.op (some 15) (.bin .add (.t 14) (.c (.int .i64 1))) 0
  (.op (some 9) (.move (.t 15)) 0
  .nil)))) false))))))
 (.seq (.region (Nodes.flat none (.op (some 48) (.move (.t 5)) 0
  (.op (some 49) (.move (.t 48)) 0
  (.grd 49 true
  (.op (some 50) (.move (.t 0)) 0
  (.op (some 51) (.move (.t 1)) 0
  (.op (some 52) (.call 47 [(.t 50), (.t 51)]) 0
  (.op (some 53) (.move (.t 6)) 0
  (.op (some 54) (.bin .eql (.t 52) (.t 53)) 0
  .nil)))))
  (.op (some 55) (.pick (.t 49) (.t 54) (.c (.bool false))) 0
  (.op (some 56) (.move (.t 55)) 0
  (.grd 56 true
  (.op (some 57) (.move (.t 0)) 0
  (.op (some 58) (.move (.t 1)) 0
  (.op (some 59) (.call 48 [(.t 57), (.t 58)]) 0
  (.op (some 60) (.move (.t 7)) 0
  (.op (some 61) (.bin .eql (.t 59) (.t 60)) 0
  .nil)))))
  (.op (some 62) (.pick (.t 56) (.t 61) (.c (.bool false))) 0
  (.op (some 63) (.move (.t 62)) 0
  (.grd 63 true
  (.op (some 64) (.move (.t 0)) 0
  (.op (some 65) (.move (.t 1)) 0
  (.op (some 66) (.call 49 [(.t 64), (.t 65)]) 0
  (.op (some 67) (.move (.t 8)) 0
  (.op (some 68) (.bin .eql (.t 66) (.t 67)) 0
  .nil)))))
  (.op (some 69) (.pick (.t 63) (.t 68) (.c (.bool false))) 0
  (.op (some 4) (.move (.t 69)) 0
  .nil)))))))))))) false)
 .ret))))))),
 [.tmp 4]⟩
theorem b9 : fnOf Go.Proofs.Try.prog (owOf []) 9 = some c9 := by kernel_rfl

end Go.Vm
