/- Code. -/
import Derived.Test.YtjegabeechopdaaVnC
import Derived.KernelRfl
import Derived.Test.YtjegabeechopdaaProg
set_option maxRecDepth 100000
set_option linter.unusedSimpArgs false
set_option linter.unusedVariables false
namespace Go.Vm
open Go

/-- bywash/bywashlaw03.SignIs -/
def c14 : RFn := ⟨(.seq (.region (Nodes.flat none (.op (some 7) (.box (.t 3)) 0
  (.op (some 8) (.move (.c (.bool false))) 0
  .nil))) false)
 (.seq (.region (Nodes.flat none (.op (some 10) (.call 43 []) 0
  (.op (some 9) (.move (.t 10)) 0
  .nil))) false)
 (.seq (.seq (.region (Nodes.flat none (.op (some 11) (.move (.t 0)) 0
  (.op (some 12) (.call 54 [(.t 11)]) 0
  (.op (some 13) (.move (.t 0)) 0
  (.op (some 14) (.call 55 [(.t 13)]) 0
  (.op (some 15) (.binb .neq (.t 12) (.t 14)) 0
  (.op (some 16) (.move (.t 15)) 0
  (.grd 16 false
  (.op (some 17) (.move (.t 2)) 0
  (.op (some 18) (.call 45 [(.t 17)]) 0
  (.op (some 19) (.move (.t 2)) 0
  (.op (some 20) (.call 56 [(.t 19)]) 0
  (.op (some 21) (.bin .neq (.t 18) (.t 20)) 0
  .nil)))))
  (.op (some 22) (.pick (.t 16) (.c (.bool true)) (.t 21)) 0
  (.op (some 23) (.move (.t 22)) 0
  (.grd 23 false
  (.op (some 24) (.move (.t 0)) 0
  (.op (some 25) (.move (.t 1)) 0
  (.op (some 26) (.call 46 [(.t 24), (.t 25)]) 0
  (.op (some 27) (.move (.t 0)) 0
  (.op (some 28) (.move (.t 1)) 0
  (.op (some 29) (.call 57 [(.t 27), (.t 28)]) 0
  (.op (some 30) (.bin .neq (.t 26) (.t 29)) 0
  .nil)))))))
  (.op (some 31) (.pick (.t 23) (.c (.bool true)) (.t 30)) 0
  (.op (some 32) (.move (.t 31)) 0
  (.grd 32 false
  (.op (some 33) (.move (.t 0)) 0
  (.op (some 34) (.move (.t 1)) 0
  (.op (some 35) (.call 44 [(.t 33), (.t 34)]) 0
  (.op (some 36) (.move (.t 0)) 0
  (.op (some 37) (.move (.t 1)) 0
  (.op (some 38) (.call 58 [(.t 36), (.t 37)]) 0
  (.op (some 39) (.binb .neq (.t 35) (.t 38)) 0
  .nil)))))))
  (.op (some 40) (.pick (.t 32) (.c (.bool true)) (.t 39)) 0
  (.op (some 41) (.move (.t 40)) 0
  (.grd 41 false
  (.op (some 42) (.move (.t 0)) 0
  (.op (some 43) (.call 52 [(.t 42)]) 0
  (.op (some 44) (.move (.t 0)) 0
  (.op (some 45) (.call 60 [(.t 44)]) 0
  (.op (some 46) (.call 59 [(.t 43), (.t 45)]) 0
  (.op (some 47) (.un .not (.t 46)) 0
  .nil))))))
  (.op (some 48) (.pick (.t 41) (.c (.bool true)) (.t 47)) 0
  (.op (some 49) (.move (.t 48)) 0
  (.grd 49 false
  (.op (some 50) (.move (.t 0)) 0
  (.op (some 51) (.call 53 [(.t 50)]) 0
  (.op (some 52) (.move (.t 0)) 0
  (.op (some 53) (.call 61 [(.t 52)]) 0
  (.op (some 54) (.bin .neq (.t 51) (.t 53)) 0
  .nil)))))
  (.op (some 55) (.pick (.t 49) (.c (.bool true)) (.t 54)) 0
  .nil))))))))))))))))))))) false)
 (.cond (.t 55)
 (.seq (.region (Nodes.flat none (.op (some 8) (.move (.c (.bool false))) 0
  .nil)) false)
 .ret)
 .skip))
 (.seq (.region (Nodes.flat none (.op (some 56) (.move (.t 9)) 0
  (.op (some 57) (.move (.t 56)) 1
  (.grd 57 true
  (.op (some 58) (.move (.t 0)) 3
  (.op (some 59) (.call 50 [(.t 58)]) 7
  (.op (some 60) (.move (.t 0)) 3
  (.op (some 61) (.call 62 [(.t 60)]) 31
  (.op (some 62) (.bin .eql (.t 59) (.t 61)) 63
  .nil)))))
  (.op (some 63) (.pick (.t 57) (.t 62) (.c (.bool false))) 127
  (.op (some 64) (.move (.t 63)) 255
  (.grd 64 true
  (.op (some 65) (.move (.t 0)) 511
  (.op (some 66) (.move (.t 1)) 511
  (.op (some 67) (.call 47 [(.t 65), (.t 66)]) 2047
  (.op (some 68) (.move (.t 0)) 511
  (.op (some 69) (.move (.t 1)) 511
  (.op (some 70) (.call 63 [(.t 68), (.t 69)]) 16383
  (.op (some 71) (.bin .eql (.t 67) (.t 70)) 32767
  .nil)))))))
  (.op (some 72) (.pick (.t 64) (.t 71) (.c (.bool false))) 65535
  (.op (some 73) (.move (.t 72)) 131071
  (.grd 73 true
  (.op (some 74) (.move (.t 0)) 262143
  (.op (some 75) (.move (.t 1)) 262143
  (.op (some 76) (.call 49 [(.t 74), (.t 75)]) 1048575
  (.op (some 77) (.move (.t 0)) 262143
  (.op (some 78) (.move (.t 1)) 262143
  (.op (some 79) (.call 64 [(.t 77), (.t 78)]) 8388607
  (.op (some 80) (.bin .eql (.t 76) (.t 79)) 16777215
  .nil)))))))
  (.op (some 81) (.pick (.t 73) (.t 80) (.c (.bool false))) 33554431
  (.op (some 82) (.move (.t 81)) 67108863
  (.grd 82 true
  (.op (some 83) (.move (.t 0)) 134217727
  (.op (some 84) (.move (.t 1)) 134217727
  (.op (some 85) (.call 48 [(.t 83), (.t 84)]) 536870911
  (.op (some 86) (.move (.t 0)) 134217727
  (.op (some 87) (.move (.t 1)) 134217727
  (.op (some 88) (.call 65 [(.t 86), (.t 87)]) 4294967295
  (.op (some 89) (.bin .eql (.t 85) (.t 88)) 8589934591
  .nil)))))))
  (.op (some 90) (.pick (.t 82) (.t 89) (.c (.bool false))) 17179869183
  (.op (some 91) (.move (.t 90)) 34359738367
  (.grd 91 true
  (.op (some 92) (.fieldAddr 0 (.t 7)) 68719476735
  (.op (some 93) (.load none (.t 92)) 137438953471
  (.op (some 94) (.fieldAddr 1 (.t 7)) 68719476735
  (.op (some 95) (.load none (.t 94)) 343597383679
  (.op (some 96) (.build [(.int .i64 0), (.int .i64 0)] [(0, 1, (.t 93)), (1, 1, (.t 95))]) 1099511627775
  (.op (some 97) (.call 51 [(.t 96)]) 2199023255551
  (.op (some 98) (.load (some 2) (.t 7)) 68719476735
  (.op (some 99) (.call 66 [(.t 98)]) 8796093022207
  (.op (some 100) (.bin .eql (.t 97) (.t 99)) 17592186044415
  .nil)))))))))
  (.op (some 101) (.pick (.t 91) (.t 100) (.c (.bool false))) 35184372088831
  (.op (some 8) (.move (.t 101)) 70368744177663
  .nil)))))))))))))))))) true)
 .ret)))),
 [.tmp 8]⟩
theorem b14 : fnOf Go.Proofs.Try.prog (owOf []) 14 = some c14 := by kernel_rfl

/-- bywash/bywashlaw03.awake -/
def c43 : RFn := ⟨(.seq (.region (Nodes.flat none (.op (some 0) (.move (.c (.bool false))) 0
  .nil)) false)
 (.seq (.region (Nodes.flat none (.op (some 1) (.call 47 [(.c (.int .i64 4)), (.c (.int .i64 1))]) 0
  (.op (some 2) (.bin .eql (.t 1) (.c (.int .i64 7))) 0
  (.op (some 3) (.move (.t 2)) 0
  (.grd 3 true
  (.op (some 4) (.call 48 [(.c (.int .i64 4)), (.c (.int .i64 1))]) 0
  (.op (some 5) (.bin .eql (.t 4) (.c (.int .i64 1))) 0
  .nil))
  (.op (some 6) (.pick (.t 3) (.t 5) (.c (.bool false))) 0
  (.op (some 7) (.move (.t 6)) 0
  (.grd 7 true
  (.op (some 8) (.call 45 [(.c (.int .i64 0))]) 0
  (.op (some 9) (.bin .eql (.t 8) (.c (.int .i64 2))) 0
  .nil))
  (.op (some 10) (.pick (.t 7) (.t 9) (.c (.bool false))) 0
  (.op (some 0) (.move (.t 10)) 0
  .nil)))))))))) false)
 .ret)),
 [.tmp 0]⟩
theorem b43 : fnOf Go.Proofs.Try.prog (owOf []) 43 = some c43 := by kernel_rfl

end Go.Vm
