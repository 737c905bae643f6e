/- Code. -/
import Derived.Test.YtjegabeechopdaaVnA
import Derived.KernelRfl
import Derived.Test.YtjegabeechopdaaProg
set_option maxRecDepth 100000
set_option linter.unusedSimpArgs false
set_option linter.unusedVariables false
namespace Go.Vm
open Go

/-- bywash/bywashlaw02.FlatIs -/
def c7 : RFn := ⟨(.seq (.region (Nodes.flat none (.op (some 3) (.box (.t 0)) 0
  (.op (some 4) (.box (.t 1)) 0
  (.op (some 6) (.move (.c (.bool false))) 0
  .nil)))) false)
 (.seq (.region (Nodes.flat none (.op (some 10) (.call 20 []) 0
  (.op (some 7) (.move (.t 10)) 0
  .nil))) false)
 (.seq (.region (Nodes.flat none (.op (some 11) (.load (some 2) (.t 3)) 0
  (.op (some 12) (.call 21 [(.t 11)]) 0
  (.op (some 8) (.alloc (.agg [(.int .i64 0), (.int .i64 0)])) 0
  (.op none (.store 2 (.t 8) (.t 12)) 0
  .nil))))) false)
 (.seq (.region (Nodes.flat none (.op (some 13) (.load (some 2) (.t 4)) 0
  (.op (some 14) (.call 21 [(.t 13)]) 0
  (.op (some 9) (.alloc (.agg [(.int .i64 0), (.int .i64 0)])) 0
  (.op none (.store 2 (.t 9) (.t 14)) 0
  .nil))))) false)
 (.seq (.seq (.region (Nodes.flat none (.op (some 15) (.load (some 2) (.t 8)) 0
  (.op (some 16) (.call 24 [(.t 15)]) 1
  (.op (some 17) (.load (some 2) (.t 3)) 0
  (.op (some 18) (.call 31 [(.t 17)]) 7
  (.op (some 19) (.binb .neq (.t 16) (.t 18)) 15
  (.op (some 20) (.move (.t 19)) 31
  (.grd 20 false
  (.op (some 21) (.load (some 2) (.t 8)) 63
  (.op (some 22) (.load (some 2) (.t 9)) 63
  (.op (some 23) (.call 22 [(.t 21), (.t 22)]) 255
  (.op (some 24) (.call 32 [(.t 23)]) 511
  (.op (some 25) (.load (some 2) (.t 3)) 63
  (.op (some 26) (.load (some 2) (.t 4)) 63
  (.op (some 27) (.call 33 [(.t 25), (.t 26)]) 4095
  (.op (some 28) (.eqs true [(0, 1), (1, 1)] (.t 24) (.t 27)) 8191
  .nil))))))))
  (.op (some 29) (.pick (.t 20) (.c (.bool true)) (.t 28)) 16383
  (.op (some 30) (.move (.t 29)) 32767
  (.grd 30 false
  (.op (some 31) (.load (some 2) (.t 8)) 65535
  (.op (some 32) (.load (some 2) (.t 9)) 65535
  (.op (some 33) (.call 23 [(.t 31), (.t 32)]) 262143
  (.op (some 34) (.load (some 2) (.t 3)) 65535
  (.op (some 35) (.load (some 2) (.t 4)) 65535
  (.op (some 36) (.call 34 [(.t 34), (.t 35)]) 2097151
  (.op (some 37) (.binb .neq (.t 33) (.t 36)) 4194303
  .nil)))))))
  (.op (some 38) (.pick (.t 30) (.c (.bool true)) (.t 37)) 8388607
  (.op (some 39) (.move (.t 38)) 16777215
  (.grd 39 false
  (.op (some 40) (.move (.t 2)) 33554431
  (.op (some 41) (.call 35 [(.t 40)]) 67108863
  (.op (some 42) (.move (.t 2)) 33554431
  (.op (some 43) (.call 36 [(.t 42)]) 268435455
  (.op (some 44) (.bin .neq (.t 41) (.t 43)) 536870911
  .nil)))))
  (.op (some 45) (.pick (.t 39) (.c (.bool true)) (.t 44)) 1073741823
  (.op (some 46) (.move (.t 45)) 2147483647
  (.grd 46 false
  (.op (some 47) (.move (.t 2)) 4294967295
  (.op (some 48) (.call 26 [(.t 47)]) 8589934591
  (.op (some 49) (.call 32 [(.t 48)]) 17179869183
  (.op (some 50) (.move (.t 2)) 4294967295
  (.op (some 51) (.call 37 [(.t 50)]) 68719476735
  (.op (some 52) (.eqs true [(0, 1), (1, 1)] (.t 49) (.t 51)) 137438953471
  .nil))))))
  (.op (some 53) (.pick (.t 46) (.c (.bool true)) (.t 52)) 274877906943
  (.op (some 54) (.move (.t 53)) 549755813887
  (.grd 54 false
  (.op (some 55) (.load (some 2) (.t 8)) 1099511627775
  (.op (some 56) (.call 25 [(.t 55)]) 2199023255551
  (.op (some 57) (.load (some 2) (.t 3)) 1099511627775
  (.op (some 58) (.call 38 [(.t 57)]) 8796093022207
  (.op (some 59) (.bin .neq (.t 56) (.t 58)) 17592186044415
  .nil)))))
  (.op (some 60) (.pick (.t 54) (.c (.bool true)) (.t 59)) 35184372088831
  .nil))))))))))))))))))))) true)
 (.cond (.t 60)
 (.seq (.region (Nodes.flat none (.op (some 6) (.move (.c (.bool false))) 0
  .nil)) false)
 .ret)
 .skip))
 (.seq (.region (Nodes.flat none (.op (some 61) (.move (.t 7)) 0
  (.op (some 62) (.move (.t 61)) 1
  (.grd 62 true
  (.op (some 63) (.load (some 2) (.t 8)) 3
  (.op (some 64) (.call 29 [(.t 63)]) 7
  (.op (some 65) (.call 32 [(.t 64)]) 15
  (.op (some 66) (.load (some 2) (.t 3)) 3
  (.op (some 67) (.call 39 [(.t 66)]) 63
  (.op (some 68) (.eqs false [(0, 1), (1, 1)] (.t 65) (.t 67)) 127
  .nil))))))
  (.op (some 69) (.pick (.t 62) (.t 68) (.c (.bool false))) 255
  (.op (some 70) (.move (.t 69)) 511
  (.grd 70 true
  (.op (some 71) (.load (some 2) (.t 8)) 1023
  (.op (some 72) (.load (some 2) (.t 9)) 1023
  (.op (some 73) (.call 27 [(.t 71), (.t 72)]) 4095
  (.op (some 74) (.call 32 [(.t 73)]) 8191
  (.op (some 75) (.load (some 2) (.t 3)) 1023
  (.op (some 76) (.load (some 2) (.t 4)) 1023
  (.op (some 77) (.call 40 [(.t 75), (.t 76)]) 65535
  (.op (some 78) (.eqs false [(0, 1), (1, 1)] (.t 74) (.t 77)) 131071
  .nil))))))))
  (.op (some 79) (.pick (.t 70) (.t 78) (.c (.bool false))) 262143
  (.op (some 80) (.move (.t 79)) 524287
  (.grd 80 true
  (.op (some 81) (.load (some 2) (.t 8)) 1048575
  (.op (some 82) (.load (some 2) (.t 9)) 1048575
  (.op (some 83) (.call 28 [(.t 81), (.t 82)]) 4194303
  (.op (some 84) (.call 32 [(.t 83)]) 8388607
  (.op (some 85) (.load (some 2) (.t 3)) 1048575
  (.op (some 86) (.load (some 2) (.t 4)) 1048575
  (.op (some 87) (.call 41 [(.t 85), (.t 86)]) 67108863
  (.op (some 88) (.eqs false [(0, 1), (1, 1)] (.t 84) (.t 87)) 134217727
  .nil))))))))
  (.op (some 89) (.pick (.t 80) (.t 88) (.c (.bool false))) 268435455
  (.op (some 90) (.move (.t 89)) 536870911
  (.grd 90 true
  (.op (some 91) (.load (some 2) (.t 8)) 1073741823
  (.op (some 92) (.load (some 2) (.t 9)) 1073741823
  (.op (some 93) (.call 30 [(.t 91), (.t 92)]) 4294967295
  (.op (some 94) (.call 32 [(.t 93)]) 8589934591
  (.op (some 95) (.load (some 2) (.t 3)) 1073741823
  (.op (some 96) (.load (some 2) (.t 4)) 1073741823
  (.op (some 97) (.call 42 [(.t 95), (.t 96)]) 68719476735
  (.op (some 98) (.eqs false [(0, 1), (1, 1)] (.t 94) (.t 97)) 137438953471
  .nil))))))))
  (.op (some 99) (.pick (.t 90) (.t 98) (.c (.bool false))) 274877906943
  (.op (some 6) (.move (.t 99)) 549755813887
  .nil))))))))))))))) true)
 .ret)))))),
 [.tmp 6]⟩
theorem b7 : fnOf Go.Proofs.Try.prog (owOf []) 7 = some c7 := by kernel_rfl

/-- bywash/bywashlaw02.awake -/
def c20 : RFn := ⟨(.seq (.region (Nodes.flat none (.op (some 0) (.move (.c (.bool false))) 0
  .nil)) false)
 (.seq (.region (Nodes.flat none (.op (some 1) (.call 26 [(.c (.int .i64 2147483647))]) 0
  (.op (some 2) (.call 26 [(.c (.int .i64 1))]) 0
  (.op (some 3) (.call 27 [(.t 1), (.t 2)]) 0
  (.op (some 4) (.call 26 [(.c (.int .i64 (-2147483648)))]) 0
  (.op (some 5) (.eqs false [(0, 1), (1, 1)] (.t 3) (.t 4)) 0
  (.op (some 6) (.move (.t 5)) 0
  (.grd 6 true
  (.op (some 7) (.call 26 [(.c (.int .i64 1))]) 0
  (.op (some 8) (.call 26 [(.c (.int .i64 2))]) 0
  (.op (some 9) (.call 22 [(.t 7), (.t 8)]) 0
  (.op (some 10) (.field 0 none (.t 9)) 0
  (.op (some 11) (.bin .eql (.t 10) (.c (.int .i64 2))) 0
  .nil)))))
  (.op (some 12) (.pick (.t 6) (.t 11) (.c (.bool false))) 0
  (.op (some 13) (.move (.t 12)) 0
  (.grd 13 true
  (.op (some 14) (.call 26 [(.c (.int .i64 0))]) 0
  (.op (some 15) (.call 25 [(.t 14)]) 0
  (.op (some 16) (.bin .eql (.t 15) (.c (.int .i64 1))) 0
  .nil)))
  (.op (some 17) (.pick (.t 13) (.t 16) (.c (.bool false))) 0
  (.op (some 0) (.move (.t 17)) 0
  .nil))))))))))))) false)
 .ret)),
 [.tmp 0]⟩
theorem b20 : fnOf Go.Proofs.Try.prog (owOf []) 20 = some c20 := by kernel_rfl

/-- bywash/bywashlaw02.ours -/
def c21 : RFn := ⟨(.seq (.region (Nodes.flat none (.op (some 1) (.box (.t 0)) 0
  (.op (some 2) (.alloc (.agg [(.int .i64 0), (.int .i64 0)])) 0
  .nil))) false)
 (.seq (.region (Nodes.flat none (.op (some 3) (.fieldAddr 0 (.t 1)) 0
  (.op (some 4) (.load none (.t 3)) 0
  (.op (some 5) (.fieldAddr 1 (.t 1)) 0
  (.op (some 6) (.load none (.t 5)) 0
  (.op (some 7) (.build [(.int .i64 0), (.int .i64 0)] [(0, 1, (.t 4)), (1, 1, (.t 6))]) 0
  (.op none (.store 2 (.t 2) (.t 7)) 0
  .nil))))))) false)
 .ret)),
 [.cell (some 2) 2]⟩
theorem b21 : fnOf Go.Proofs.Try.prog (owOf []) 21 = some c21 := by kernel_rfl

/-- bywash/bywashlaw02.theirs -/
def c32 : RFn := ⟨(.seq (.region (Nodes.flat none (.op (some 1) (.box (.t 0)) 0
  (.op (some 2) (.alloc (.agg [(.int .i64 0), (.int .i64 0)])) 0
  .nil))) false)
 (.seq (.region (Nodes.flat none (.op (some 3) (.fieldAddr 0 (.t 1)) 0
  (.op (some 4) (.load none (.t 3)) 0
  (.op (some 5) (.fieldAddr 1 (.t 1)) 0
  (.op (some 6) (.load none (.t 5)) 0
  (.op (some 7) (.build [(.int .i64 0), (.int .i64 0)] [(0, 1, (.t 4)), (1, 1, (.t 6))]) 0
  (.op none (.store 2 (.t 2) (.t 7)) 0
  .nil))))))) false)
 .ret)),
 [.cell (some 2) 2]⟩
theorem b32 : fnOf Go.Proofs.Try.prog (owOf []) 32 = some c32 := by kernel_rfl

end Go.Vm
