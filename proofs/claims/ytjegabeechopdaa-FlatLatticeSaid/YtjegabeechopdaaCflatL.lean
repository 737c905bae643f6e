/- Code. -/
import Derived.Test.YtjegabeechopdaaVnA
import Derived.KernelRfl
import Derived.Test.YtjegabeechopdaaProg
set_option maxRecDepth 100000
set_option linter.unusedSimpArgs false
set_option linter.unusedVariables false
namespace Go.Vm
open Go

/-- bywash/bywashlaw02.FlatLattice -/
def c3 : RFn := ⟨(.seq (.region (Nodes.flat none (.op (some 3) (.box (.t 0)) 0
  (.op (some 4) (.box (.t 1)) 0
  (.op (some 5) (.box (.t 2)) 0
  (.op (some 6) (.move (.c (.bool false))) 0
  .nil))))) false)
 (.seq (.region (Nodes.flat none (.op (some 12) (.call 20 []) 0
  (.op (some 7) (.move (.t 12)) 0
  .nil))) false)
 (.seq (.region (Nodes.flat none (.op (some 13) (.load (some 2) (.t 3)) 0
  (.op (some 14) (.call 21 [(.t 13)]) 0
  (.op (some 8) (.alloc (.agg [(.int .i64 0), (.int .i64 0)])) 0
  (.op none (.store 2 (.t 8) (.t 14)) 0
  .nil))))) false)
 (.seq (.region (Nodes.flat none (.op (some 15) (.load (some 2) (.t 4)) 0
  (.op (some 16) (.call 21 [(.t 15)]) 0
  (.op (some 9) (.alloc (.agg [(.int .i64 0), (.int .i64 0)])) 0
  (.op none (.store 2 (.t 9) (.t 16)) 0
  .nil))))) false)
 (.seq (.region (Nodes.flat none (.op (some 17) (.load (some 2) (.t 5)) 0
  (.op (some 18) (.call 21 [(.t 17)]) 0
  (.op (some 10) (.alloc (.agg [(.int .i64 0), (.int .i64 0)])) 0
  (.op none (.store 2 (.t 10) (.t 18)) 0
  .nil))))) false)
 (.seq (.region (Nodes.flat none (.op (some 19) (.load (some 2) (.t 8)) 0
  (.op (some 20) (.load (some 2) (.t 9)) 0
  (.op (some 21) (.call 22 [(.t 19), (.t 20)]) 0
  (.op (some 11) (.alloc (.agg [(.int .i64 0), (.int .i64 0)])) 0
  (.op none (.store 2 (.t 11) (.t 21)) 0
  .nil)))))) false)
 (.seq (.seq (.region (Nodes.flat none (.op (some 22) (.load (some 2) (.t 8)) 0
  (.op (some 23) (.load (some 2) (.t 9)) 0
  (.op (some 24) (.call 23 [(.t 22), (.t 23)]) 3
  (.op (some 25) (.move (.t 24)) 7
  (.grd 25 true
  (.op (some 26) (.load (some 2) (.t 9)) 15
  (.op (some 27) (.load (some 2) (.t 10)) 15
  (.op (some 28) (.call 23 [(.t 26), (.t 27)]) 63
  .nil)))
  (.op (some 29) (.pick (.t 25) (.t 28) (.c (.bool false))) 127
  (.op (some 30) (.move (.t 29)) 255
  (.grd 30 true
  (.op (some 31) (.load (some 2) (.t 8)) 511
  (.op (some 32) (.load (some 2) (.t 10)) 511
  (.op (some 33) (.call 23 [(.t 31), (.t 32)]) 2047
  (.op (some 34) (.un .not (.t 33)) 4095
  .nil))))
  (.op (some 35) (.pick (.t 30) (.t 34) (.c (.bool false))) 8191
  (.op (some 36) (.move (.t 35)) 16383
  (.grd 36 false
  (.op (some 37) (.load (some 2) (.t 8)) 32767
  (.op (some 38) (.load (some 2) (.t 10)) 32767
  (.op (some 39) (.call 23 [(.t 37), (.t 38)]) 131071
  (.op (some 40) (.move (.t 39)) 262143
  (.grd 40 true
  (.op (some 41) (.load (some 2) (.t 9)) 524287
  (.op (some 42) (.load (some 2) (.t 10)) 524287
  (.op (some 43) (.call 23 [(.t 41), (.t 42)]) 2097151
  .nil)))
  (.op (some 44) (.pick (.t 40) (.t 43) (.c (.bool false))) 4194303
  (.op (some 45) (.load (some 2) (.t 11)) 32767
  (.op (some 46) (.load (some 2) (.t 10)) 32767
  (.op (some 47) (.call 23 [(.t 45), (.t 46)]) 29360127
  (.op (some 48) (.binb .neq (.t 44) (.t 47)) 67108863
  .nil))))))))))
  (.op (some 49) (.pick (.t 36) (.c (.bool true)) (.t 48)) 134217727
  (.op (some 50) (.move (.t 49)) 268435455
  (.grd 50 false
  (.op (some 51) (.load (some 2) (.t 8)) 536870911
  (.op (some 52) (.load (some 2) (.t 9)) 536870911
  (.op (some 53) (.call 23 [(.t 51), (.t 52)]) 2147483647
  (.op (some 54) (.move (.t 53)) 4294967295
  (.grd 54 true
  (.op (some 55) (.load (some 2) (.t 9)) 8589934591
  (.op (some 56) (.load (some 2) (.t 8)) 8589934591
  (.op (some 57) (.call 23 [(.t 55), (.t 56)]) 34359738367
  .nil)))
  (.op (some 58) (.pick (.t 54) (.t 57) (.c (.bool false))) 68719476735
  (.op (some 59) (.move (.t 58)) 137438953471
  (.grd 59 true
  (.op (some 60) (.load (some 2) (.t 8)) 274877906943
  (.op (some 61) (.load (some 2) (.t 8)) 274877906943
  (.op (some 62) (.call 22 [(.t 60), (.t 61)]) 1099511627775
  (.op (some 63) (.load (some 2) (.t 9)) 274877906943
  (.op (some 64) (.load (some 2) (.t 9)) 274877906943
  (.op (some 65) (.call 22 [(.t 63), (.t 64)]) 8796093022207
  (.op (some 66) (.eqs true [(0, 1), (1, 1)] (.t 62) (.t 65)) 17592186044415
  .nil)))))))
  (.op (some 67) (.pick (.t 59) (.t 66) (.c (.bool false))) 35184372088831
  .nil)))))))))
  (.op (some 68) (.pick (.t 50) (.c (.bool true)) (.t 67)) 70368744177663
  .nil)))))))))))))))) true)
 (.cond (.t 68)
 (.seq (.region (Nodes.flat none (.op (some 6) (.move (.c (.bool false))) 0
  .nil)) false)
 .ret)
 .skip))
 (.seq (.region (Nodes.flat none (.op (some 69) (.move (.t 7)) 0
  (.op (some 70) (.move (.t 69)) 1
  (.grd 70 true
  (.op (some 71) (.load (some 2) (.t 11)) 3
  (.op (some 72) (.call 24 [(.t 71)]) 7
  .nil))
  (.op (some 73) (.pick (.t 70) (.t 72) (.c (.bool false))) 15
  (.op (some 74) (.move (.t 73)) 31
  (.grd 74 true
  (.op (some 75) (.load (some 2) (.t 8)) 63
  (.op (some 76) (.load (some 2) (.t 8)) 63
  (.op (some 77) (.call 23 [(.t 75), (.t 76)]) 255
  .nil)))
  (.op (some 78) (.pick (.t 74) (.t 77) (.c (.bool false))) 511
  (.op (some 79) (.move (.t 78)) 1023
  (.grd 79 true
  (.op (some 80) (.load (some 2) (.t 8)) 2047
  (.op (some 81) (.load (some 2) (.t 11)) 2047
  (.op (some 82) (.call 23 [(.t 80), (.t 81)]) 8191
  .nil)))
  (.op (some 83) (.pick (.t 79) (.t 82) (.c (.bool false))) 16383
  (.op (some 84) (.move (.t 83)) 32767
  (.grd 84 true
  (.op (some 85) (.load (some 2) (.t 9)) 65535
  (.op (some 86) (.load (some 2) (.t 11)) 65535
  (.op (some 87) (.call 23 [(.t 85), (.t 86)]) 262143
  .nil)))
  (.op (some 88) (.pick (.t 84) (.t 87) (.c (.bool false))) 524287
  (.op (some 89) (.move (.t 88)) 1048575
  (.grd 89 true
  (.op (some 90) (.load (some 2) (.t 11)) 2097151
  (.op (some 91) (.load (some 2) (.t 9)) 2097151
  (.op (some 92) (.load (some 2) (.t 8)) 2097151
  (.op (some 93) (.call 22 [(.t 91), (.t 92)]) 14680063
  (.op (some 94) (.eqs false [(0, 1), (1, 1)] (.t 90) (.t 93)) 33554431
  .nil)))))
  (.op (some 95) (.pick (.t 89) (.t 94) (.c (.bool false))) 67108863
  (.op (some 96) (.move (.t 95)) 134217727
  (.grd 96 true
  (.op (some 97) (.load (some 2) (.t 11)) 268435455
  (.op (some 98) (.load (some 2) (.t 10)) 268435455
  (.op (some 99) (.call 22 [(.t 97), (.t 98)]) 1073741823
  (.op (some 100) (.load (some 2) (.t 8)) 268435455
  (.op (some 101) (.load (some 2) (.t 9)) 268435455
  (.op (some 102) (.load (some 2) (.t 10)) 268435455
  (.op (some 103) (.call 22 [(.t 101), (.t 102)]) 15032385535
  (.op (some 104) (.call 22 [(.t 100), (.t 103)]) 34359738367
  (.op (some 105) (.eqs false [(0, 1), (1, 1)] (.t 99) (.t 104)) 68719476735
  .nil)))))))))
  (.op (some 106) (.pick (.t 96) (.t 105) (.c (.bool false))) 137438953471
  (.op (some 107) (.move (.t 106)) 274877906943
  (.grd 107 true
  (.op (some 108) (.load (some 2) (.t 8)) 549755813887
  (.op (some 109) (.load (some 2) (.t 9)) 549755813887
  (.op (some 110) (.call 23 [(.t 108), (.t 109)]) 2199023255551
  (.op (some 111) (.un .not (.t 110)) 4398046511103
  (.op (some 112) (.move (.t 111)) 8796093022207
  (.grd 112 false
  (.op (some 113) (.load (some 2) (.t 8)) 17592186044415
  (.op (some 114) (.call 25 [(.t 113)]) 35184372088831
  (.op (some 115) (.load (some 2) (.t 9)) 17592186044415
  (.op (some 116) (.call 25 [(.t 115)]) 140737488355327
  (.op (some 117) (.bin .leq (.t 114) (.t 116)) 281474976710655
  .nil)))))
  (.op (some 118) (.pick (.t 112) (.c (.bool true)) (.t 117)) 562949953421311
  .nil)))))))
  (.op (some 119) (.pick (.t 107) (.t 118) (.c (.bool false))) 1125899906842623
  (.op (some 120) (.move (.t 119)) 2251799813685247
  (.grd 120 true
  (.op (some 121) (.load (some 2) (.t 11)) 4503599627370495
  (.op (some 122) (.call 25 [(.t 121)]) 9007199254740991
  (.op (some 123) (.bin .leq (.t 122) (.c (.int .i64 2))) 18014398509481983
  .nil)))
  (.op (some 124) (.pick (.t 120) (.t 123) (.c (.bool false))) 36028797018963967
  (.op (some 6) (.move (.t 124)) 72057594037927935
  .nil))))))))))))))))))))))))))) true)
 .ret)))))))),
 [.tmp 6]⟩
theorem b3 : fnOf Go.Proofs.Try.prog (owOf []) 3 = some c3 := by kernel_rfl

end Go.Vm
