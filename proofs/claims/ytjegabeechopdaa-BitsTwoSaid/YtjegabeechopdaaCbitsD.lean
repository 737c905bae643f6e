/- Laid. -/
import Derived.Test.YtjegabeechopdaaVmThree
import Derived.KernelRfl
import Derived.Test.YtjegabeechopdaaProg
/- Code. -/
set_option maxRecDepth 100000
set_option linter.unusedSimpArgs false
set_option linter.unusedVariables false
namespace Go.Vm
open Go

/-- bywash/bywashlaw01.BitsMinus -/
def c18 : RFn := ⟨(.seq (.region (Nodes.flat none (.op (some 2) (.box (.t 0)) 0
  (.op (some 3) (.box (.t 1)) 0
  (.op (some 4) (.move (.c (.bool false))) 0
  .nil)))) false)
 (.seq (.region (Nodes.flat none (.op (some 9) (.call 67 []) 0
  (.op (some 5) (.move (.t 9)) 0
  .nil))) false)
 (.seq (.seq (.region (Nodes.flat none (.op (some 10) (.load (some 2) (.t 2)) 0
  (.op (some 11) (.call 75 [(.t 10)]) 0
  (.op (some 12) (.un .not (.t 11)) 0
  (.op (some 13) (.move (.t 12)) 0
  (.grd 13 false
  (.op (some 14) (.load (some 2) (.t 3)) 0
  (.op (some 15) (.call 75 [(.t 14)]) 0
  (.op (some 16) (.un .not (.t 15)) 0
  .nil)))
  (.op (some 17) (.pick (.t 13) (.c (.bool true)) (.t 16)) 0
  .nil))))))) false)
 (.cond (.t 17)
 (.seq (.region (Nodes.flat none (.op (some 18) (.move (.t 5)) 0
  (.op (some 4) (.move (.t 18)) 0
  .nil))) false)
 .ret)
 .skip))
 (.seq (.region (Nodes.flat none (.op (some 19) (.load (some 2) (.t 2)) 0
  (.op (some 20) (.call 76 [(.t 19)]) 0
  (.op (some 6) (.alloc (.agg [(.int .i64 0), (.lit [])])) 0
  (.op none (.store 2 (.t 6) (.t 20)) 0
  .nil))))) false)
 (.seq (.region (Nodes.flat none (.op (some 21) (.load (some 2) (.t 3)) 0
  (.op (some 22) (.call 76 [(.t 21)]) 0
  (.op (some 7) (.alloc (.agg [(.int .i64 0), (.lit [])])) 0
  (.op none (.store 2 (.t 7) (.t 22)) 0
  .nil))))) false)
 (.seq (.region (Nodes.flat none (.op (some 23) (.load (some 2) (.t 6)) 0
  (.op (some 24) (.load (some 2) (.t 7)) 0
  (.op (some 25) (.call 81 [(.t 23), (.t 24)]) 0
  (.op (some 8) (.alloc (.agg [(.int .i64 0), (.lit [])])) 0
  (.op none (.store 2 (.t 8) (.t 25)) 0
  .nil)))))) false)
 (.seq (.region (Nodes.flat none (.op (some 26) (.move (.t 5)) 0
  (.op (some 27) (.move (.t 26)) 1
  (.grd 27 true
  (.op (some 28) (.load (some 2) (.t 8)) 3
  (.op (some 29) (.load (some 2) (.t 7)) 3
  (.op (some 30) (.call 81 [(.t 28), (.t 29)]) 15
  (.op (some 31) (.load (some 2) (.t 8)) 3
  (.op (some 32) (.call 71 [(.t 30), (.t 31)]) 63
  .nil)))))
  (.op (some 33) (.pick (.t 27) (.t 32) (.c (.bool false))) 127
  (.op (some 34) (.move (.t 33)) 255
  (.grd 34 true
  (.op (some 35) (.load (some 2) (.t 8)) 511
  (.op (some 36) (.load (some 2) (.t 7)) 511
  (.op (some 37) (.call 83 [(.t 35), (.t 36)]) 2047
  (.op (some 38) (.call 73 [(.t 37)]) 4095
  (.op (some 39) (.bin .eql (.t 38) (.c (.int .i64 0))) 8191
  .nil)))))
  (.op (some 40) (.pick (.t 34) (.t 39) (.c (.bool false))) 16383
  (.op (some 41) (.move (.t 40)) 32767
  (.grd 41 true
  (.op (some 42) (.load (some 2) (.t 6)) 65535
  (.op (some 43) (.load (some 2) (.t 7)) 65535
  (.op (some 44) (.call 70 [(.t 42), (.t 43)]) 262143
  (.op (some 45) (.load (some 2) (.t 8)) 65535
  (.op (some 46) (.call 73 [(.t 45)]) 1048575
  (.op (some 47) (.bin .eql (.t 46) (.c (.int .i64 0))) 2097151
  (.op (some 48) (.binb .eql (.t 44) (.t 47)) 4194303
  .nil)))))))
  (.op (some 49) (.pick (.t 41) (.t 48) (.c (.bool false))) 8388607
  (.op (some 50) (.move (.t 49)) 16777215
  (.grd 50 true
  (.op (some 51) (.load (some 2) (.t 8)) 33554431
  (.op (some 52) (.call 73 [(.t 51)]) 67108863
  (.op (some 53) (.load (some 2) (.t 6)) 33554431
  (.op (some 54) (.call 73 [(.t 53)]) 268435455
  (.op (some 55) (.load (some 2) (.t 6)) 33554431
  (.op (some 56) (.load (some 2) (.t 7)) 33554431
  (.op (some 57) (.call 83 [(.t 55), (.t 56)]) 2147483647
  (.op (some 58) (.call 73 [(.t 57)]) 4294967295
  (.op (some 59) (.bin .sub (.t 54) (.t 58)) 8589934591
  (.op (some 60) (.bin .eql (.t 52) (.t 59)) 17179869183
  .nil))))))))))
  (.op (some 61) (.pick (.t 50) (.t 60) (.c (.bool false))) 34359738367
  (.op (some 62) (.move (.t 61)) 68719476735
  (.grd 62 true
  (.op (some 63) (.load (some 2) (.t 6)) 137438953471
  (.op (some 64) (.load (some 2) (.t 8)) 137438953471
  (.op (some 65) (.load (some 2) (.t 7)) 137438953471
  (.op (some 66) (.call 79 [(.t 64), (.t 65)]) 962072674303
  (.op (some 67) (.call 70 [(.t 63), (.t 66)]) 2199023255551
  .nil)))))
  (.op (some 68) (.pick (.t 62) (.t 67) (.c (.bool false))) 4398046511103
  (.op (some 69) (.move (.t 68)) 8796093022207
  (.grd 69 true
  (.op (some 70) (.load (some 2) (.t 6)) 17592186044415
  (.op (some 71) (.load (some 2) (.t 7)) 17592186044415
  (.op (some 72) (.call 83 [(.t 70), (.t 71)]) 70368744177663
  (.op (some 73) (.load (some 2) (.t 7)) 17592186044415
  (.op (some 74) (.load (some 2) (.t 6)) 17592186044415
  (.op (some 75) (.call 83 [(.t 73), (.t 74)]) 562949953421311
  (.op (some 76) (.call 71 [(.t 72), (.t 75)]) 1125899906842623
  .nil)))))))
  (.op (some 77) (.pick (.t 69) (.t 76) (.c (.bool false))) 2251799813685247
  (.op (some 4) (.move (.t 77)) 4503599627370495
  .nil))))))))))))))))))))) true)
 .ret))))))),
 [.tmp 4]⟩
theorem b18 : fnOf Go.Proofs.Try.prog (owOf []) 18 = some c18 := by kernel_rfl

/-- bywash/bywashlaw01.awake -/
def c67 : RFn := ⟨(.seq (.region (Nodes.flat none (.op (some 0) (.move (.c (.bool false))) 0
  .nil)) false)
 (.seq (.region (Nodes.flat none (.op (some 2) (.bslice false 1 2 (.int .i64 0) [(0, (.c (.int .i64 3))), (1, (.c (.int .i64 65)))]) 0
  (.op (some 3) (.call 74 [(.c (.int .i64 70)), (.t 2)]) 0
  (.op (some 1) (.alloc (.agg [(.int .i64 0), (.lit [])])) 0
  (.op none (.store 2 (.t 1) (.t 3)) 0
  .nil))))) false)
 (.seq (.region (Nodes.flat none (.op (some 4) (.fieldAddr 1 (.t 1)) 0
  (.op (some 5) (.load none (.t 4)) 0
  (.op (some 6) (.len false (.t 5)) 0
  (.op (some 7) (.bin .eql (.t 6) (.c (.int .i64 2))) 0
  (.op (some 8) (.move (.t 7)) 0
  (.grd 8 true
  (.op (some 9) (.fieldAddr 1 (.t 1)) 0
  (.op (some 10) (.load none (.t 9)) 0
  (.op (some 11) (.idxAddr 1 (.t 10) (.c (.int .i64 0))) 0
  (.op (some 12) (.load none (.t 11)) 0
  (.op (some 13) (.bin .eql (.t 12) (.c (.int .u64 8))) 0
  .nil)))))
  (.op (some 14) (.pick (.t 8) (.t 13) (.c (.bool false))) 0
  (.op (some 15) (.move (.t 14)) 0
  (.grd 15 true
  (.op (some 16) (.fieldAddr 1 (.t 1)) 0
  (.op (some 17) (.load none (.t 16)) 0
  (.op (some 18) (.idxAddr 1 (.t 17) (.c (.int .i64 1))) 0
  (.op (some 19) (.load none (.t 18)) 0
  (.op (some 20) (.bin .eql (.t 19) (.c (.int .u64 2))) 0
  .nil)))))
  (.op (some 21) (.pick (.t 15) (.t 20) (.c (.bool false))) 0
  (.op (some 22) (.move (.t 21)) 0
  (.grd 22 true
  (.op (some 23) (.load (some 2) (.t 1)) 0
  (.op (some 24) (.call 72 [(.t 23), (.c (.int .i64 65))]) 0
  .nil))
  (.op (some 25) (.pick (.t 22) (.t 24) (.c (.bool false))) 0
  (.op (some 26) (.move (.t 25)) 0
  (.grd 26 true
  (.op (some 27) (.load (some 2) (.t 1)) 0
  (.op (some 28) (.call 87 [(.t 27)]) 0
  .nil))
  (.op (some 29) (.pick (.t 26) (.t 28) (.c (.bool false))) 0
  (.op (some 30) (.move (.t 29)) 0
  (.grd 30 true
  (.op (some 31) (.load (some 2) (.t 1)) 0
  (.op (some 32) (.call 73 [(.t 31)]) 0
  (.op (some 33) (.bin .eql (.t 32) (.c (.int .i64 2))) 0
  .nil)))
  (.op (some 34) (.pick (.t 30) (.t 33) (.c (.bool false))) 0
  (.op (some 0) (.move (.t 34)) 0
  .nil))))))))))))))))))))) false)
 .ret))),
 [.tmp 0]⟩
theorem b67 : fnOf Go.Proofs.Try.prog (owOf [(1, 0)]) 67 = some c67 := by kernel_rfl

/-- bywash/bywashlaw01.few -/
def c75 : RFn := ⟨(.seq (.region (Nodes.flat none (.op (some 1) (.box (.t 0)) 0
  (.op (some 2) (.move (.c (.bool false))) 0
  .nil))) false)
 (.seq (.region (Nodes.flat none (.op (some 3) (.fieldAddr 1 (.t 1)) 0
  (.op (some 4) (.load none (.t 3)) 0
  (.op (some 5) (.len false (.t 4)) 0
  (.op (some 6) (.bin .leq (.t 5) (.c (.int .i64 30))) 0
  (.op (some 2) (.move (.t 6)) 0
  .nil)))))) false)
 .ret)),
 [.tmp 2]⟩
theorem b75 : fnOf Go.Proofs.Try.prog (owOf []) 75 = some c75 := by kernel_rfl

/-- bywash/bywashlaw01.ours -/
def c76 : RFn := ⟨(.seq (.region (Nodes.flat none (.op (some 1) (.box (.t 0)) 0
  (.op (some 2) (.alloc (.agg [(.int .i64 0), (.lit [])])) 0
  .nil))) false)
 (.seq (.region (Nodes.flat none (.op (some 3) (.fieldAddr 0 (.t 1)) 0
  (.op (some 4) (.load none (.t 3)) 0
  (.op (some 5) (.fieldAddr 1 (.t 1)) 0
  (.op (some 6) (.load none (.t 5)) 0
  (.op (some 7) (.build [(.int .i64 0), (.lit [])] [(0, 1, (.t 4)), (1, 1, (.t 6))]) 0
  (.op none (.store 2 (.t 2) (.t 7)) 0
  .nil))))))) false)
 .ret)),
 [.cell (some 2) 2]⟩
theorem b76 : fnOf Go.Proofs.Try.prog (owOf []) 76 = some c76 := by kernel_rfl

end Go.Vm
