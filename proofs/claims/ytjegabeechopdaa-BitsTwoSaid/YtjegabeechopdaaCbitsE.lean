/- Laid. -/
import Derived.Test.YtjegabeechopdaaVmThree
import Derived.KernelRfl
import Derived.Test.YtjegabeechopdaaProg
/- Code. -/
set_option maxRecDepth 100000
set_option linter.unusedSimpArgs false
set_option linter.unusedVariables false
namespace Go.Vm
open Go

/-- bywash/bywashlaw01.BitsLattice -/
def c17 : RFn := ⟨(.seq (.region (Nodes.flat none (.op (some 3) (.box (.t 0)) 0
  (.op (some 4) (.box (.t 1)) 0
  (.op (some 5) (.box (.t 2)) 0
  (.op (some 6) (.move (.c (.bool false))) 0
  .nil))))) false)
 (.seq (.region (Nodes.flat none (.op (some 13) (.call 67 []) 0
  (.op (some 7) (.move (.t 13)) 0
  .nil))) false)
 (.seq (.seq (.region (Nodes.flat none (.op (some 14) (.load (some 2) (.t 3)) 0
  (.op (some 15) (.call 75 [(.t 14)]) 0
  (.op (some 16) (.un .not (.t 15)) 0
  (.op (some 17) (.move (.t 16)) 0
  (.grd 17 false
  (.op (some 18) (.load (some 2) (.t 4)) 0
  (.op (some 19) (.call 75 [(.t 18)]) 0
  (.op (some 20) (.un .not (.t 19)) 0
  .nil)))
  (.op (some 21) (.pick (.t 17) (.c (.bool true)) (.t 20)) 0
  (.op (some 22) (.move (.t 21)) 0
  (.grd 22 false
  (.op (some 23) (.load (some 2) (.t 5)) 0
  (.op (some 24) (.call 75 [(.t 23)]) 0
  (.op (some 25) (.un .not (.t 24)) 0
  .nil)))
  (.op (some 26) (.pick (.t 22) (.c (.bool true)) (.t 25)) 0
  .nil)))))))))) false)
 (.cond (.t 26)
 (.seq (.region (Nodes.flat none (.op (some 27) (.move (.t 7)) 0
  (.op (some 6) (.move (.t 27)) 0
  .nil))) false)
 .ret)
 .skip))
 (.seq (.region (Nodes.flat none (.op (some 28) (.load (some 2) (.t 3)) 0
  (.op (some 29) (.call 76 [(.t 28)]) 0
  (.op (some 8) (.alloc (.agg [(.int .i64 0), (.lit [])])) 0
  (.op none (.store 2 (.t 8) (.t 29)) 0
  .nil))))) false)
 (.seq (.region (Nodes.flat none (.op (some 30) (.load (some 2) (.t 4)) 0
  (.op (some 31) (.call 76 [(.t 30)]) 0
  (.op (some 9) (.alloc (.agg [(.int .i64 0), (.lit [])])) 0
  (.op none (.store 2 (.t 9) (.t 31)) 0
  .nil))))) false)
 (.seq (.region (Nodes.flat none (.op (some 32) (.load (some 2) (.t 5)) 0
  (.op (some 33) (.call 76 [(.t 32)]) 0
  (.op (some 10) (.alloc (.agg [(.int .i64 0), (.lit [])])) 0
  (.op none (.store 2 (.t 10) (.t 33)) 0
  .nil))))) false)
 (.seq (.region (Nodes.flat none (.op (some 34) (.load (some 2) (.t 8)) 0
  (.op (some 35) (.load (some 2) (.t 9)) 0
  (.op (some 36) (.call 79 [(.t 34), (.t 35)]) 0
  (.op (some 11) (.alloc (.agg [(.int .i64 0), (.lit [])])) 0
  (.op none (.store 2 (.t 11) (.t 36)) 0
  .nil)))))) false)
 (.seq (.region (Nodes.flat none (.op (some 37) (.load (some 2) (.t 8)) 0
  (.op (some 38) (.load (some 2) (.t 9)) 0
  (.op (some 39) (.call 83 [(.t 37), (.t 38)]) 0
  (.op (some 12) (.alloc (.agg [(.int .i64 0), (.lit [])])) 0
  (.op none (.store 2 (.t 12) (.t 39)) 0
  .nil)))))) false)
 (.seq (.seq (.region (Nodes.flat none (.op (some 40) (.load (some 2) (.t 8)) 0
  (.op (some 41) (.load (some 2) (.t 9)) 0
  (.op (some 42) (.call 70 [(.t 40), (.t 41)]) 3
  (.op (some 43) (.move (.t 42)) 7
  (.grd 43 true
  (.op (some 44) (.load (some 2) (.t 9)) 15
  (.op (some 45) (.load (some 2) (.t 10)) 15
  (.op (some 46) (.call 70 [(.t 44), (.t 45)]) 63
  .nil)))
  (.op (some 47) (.pick (.t 43) (.t 46) (.c (.bool false))) 127
  (.op (some 48) (.move (.t 47)) 255
  (.grd 48 true
  (.op (some 49) (.load (some 2) (.t 8)) 511
  (.op (some 50) (.load (some 2) (.t 10)) 511
  (.op (some 51) (.call 70 [(.t 49), (.t 50)]) 2047
  (.op (some 52) (.un .not (.t 51)) 4095
  .nil))))
  (.op (some 53) (.pick (.t 48) (.t 52) (.c (.bool false))) 8191
  (.op (some 54) (.move (.t 53)) 16383
  (.grd 54 false
  (.op (some 55) (.load (some 2) (.t 8)) 32767
  (.op (some 56) (.load (some 2) (.t 10)) 32767
  (.op (some 57) (.call 70 [(.t 55), (.t 56)]) 131071
  (.op (some 58) (.move (.t 57)) 262143
  (.grd 58 true
  (.op (some 59) (.load (some 2) (.t 9)) 524287
  (.op (some 60) (.load (some 2) (.t 10)) 524287
  (.op (some 61) (.call 70 [(.t 59), (.t 60)]) 2097151
  (.op (some 62) (.load (some 2) (.t 11)) 524287
  (.op (some 63) (.load (some 2) (.t 10)) 524287
  (.op (some 64) (.call 70 [(.t 62), (.t 63)]) 16777215
  (.op (some 65) (.binb .neq (.t 61) (.t 64)) 33554431
  .nil)))))))
  (.op (some 66) (.pick (.t 58) (.t 65) (.c (.bool false))) 67108863
  .nil))))))
  (.op (some 67) (.pick (.t 54) (.c (.bool true)) (.t 66)) 134217727
  .nil))))))))))))) true)
 (.cond (.t 67)
 (.seq (.region (Nodes.flat none (.op (some 6) (.move (.c (.bool false))) 0
  .nil)) false)
 .ret)
 .skip))
 (.seq (.region (Nodes.flat none (.op (some 68) (.move (.t 7)) 0
  (.op (some 69) (.move (.t 68)) 1
  (.grd 69 true
  (.op (some 70) (.load (some 2) (.t 8)) 3
  (.op (some 71) (.load (some 2) (.t 11)) 3
  (.op (some 72) (.call 70 [(.t 70), (.t 71)]) 15
  .nil)))
  (.op (some 73) (.pick (.t 69) (.t 72) (.c (.bool false))) 31
  (.op (some 74) (.move (.t 73)) 63
  (.grd 74 true
  (.op (some 75) (.load (some 2) (.t 9)) 127
  (.op (some 76) (.load (some 2) (.t 11)) 127
  (.op (some 77) (.call 70 [(.t 75), (.t 76)]) 511
  .nil)))
  (.op (some 78) (.pick (.t 74) (.t 77) (.c (.bool false))) 1023
  (.op (some 79) (.move (.t 78)) 2047
  (.grd 79 true
  (.op (some 80) (.load (some 2) (.t 12)) 4095
  (.op (some 81) (.load (some 2) (.t 8)) 4095
  (.op (some 82) (.call 70 [(.t 80), (.t 81)]) 16383
  .nil)))
  (.op (some 83) (.pick (.t 79) (.t 82) (.c (.bool false))) 32767
  (.op (some 84) (.move (.t 83)) 65535
  (.grd 84 true
  (.op (some 85) (.load (some 2) (.t 12)) 131071
  (.op (some 86) (.load (some 2) (.t 9)) 131071
  (.op (some 87) (.call 70 [(.t 85), (.t 86)]) 524287
  .nil)))
  (.op (some 88) (.pick (.t 84) (.t 87) (.c (.bool false))) 1048575
  (.op (some 89) (.move (.t 88)) 2097151
  (.grd 89 true
  (.op (some 90) (.load (some 2) (.t 11)) 4194303
  (.op (some 91) (.load (some 2) (.t 9)) 4194303
  (.op (some 92) (.load (some 2) (.t 8)) 4194303
  (.op (some 93) (.call 79 [(.t 91), (.t 92)]) 29360127
  (.op (some 94) (.call 71 [(.t 90), (.t 93)]) 67108863
  .nil)))))
  (.op (some 95) (.pick (.t 89) (.t 94) (.c (.bool false))) 134217727
  (.op (some 96) (.move (.t 95)) 268435455
  (.grd 96 true
  (.op (some 97) (.load (some 2) (.t 11)) 536870911
  (.op (some 98) (.load (some 2) (.t 10)) 536870911
  (.op (some 99) (.call 79 [(.t 97), (.t 98)]) 2147483647
  (.op (some 100) (.load (some 2) (.t 8)) 536870911
  (.op (some 101) (.load (some 2) (.t 9)) 536870911
  (.op (some 102) (.load (some 2) (.t 10)) 536870911
  (.op (some 103) (.call 79 [(.t 101), (.t 102)]) 30064771071
  (.op (some 104) (.call 79 [(.t 100), (.t 103)]) 68719476735
  (.op (some 105) (.call 71 [(.t 99), (.t 104)]) 137438953471
  .nil)))))))))
  (.op (some 106) (.pick (.t 96) (.t 105) (.c (.bool false))) 274877906943
  (.op (some 107) (.move (.t 106)) 549755813887
  (.grd 107 true
  (.op (some 108) (.load (some 2) (.t 8)) 1099511627775
  (.op (some 109) (.load (some 2) (.t 8)) 1099511627775
  (.op (some 110) (.call 70 [(.t 108), (.t 109)]) 4398046511103
  .nil)))
  (.op (some 111) (.pick (.t 107) (.t 110) (.c (.bool false))) 8796093022207
  (.op (some 112) (.move (.t 111)) 17592186044415
  (.grd 112 true
  (.op (some 113) (.load (some 2) (.t 11)) 35184372088831
  (.op (some 114) (.call 73 [(.t 113)]) 70368744177663
  (.op (some 115) (.load (some 2) (.t 12)) 35184372088831
  (.op (some 116) (.call 73 [(.t 115)]) 281474976710655
  (.op (some 117) (.bin .add (.t 114) (.t 116)) 562949953421311
  (.op (some 118) (.load (some 2) (.t 8)) 35184372088831
  (.op (some 119) (.call 73 [(.t 118)]) 1688849860263935
  (.op (some 120) (.load (some 2) (.t 9)) 35184372088831
  (.op (some 121) (.call 73 [(.t 120)]) 8444249301319679
  (.op (some 122) (.bin .add (.t 119) (.t 121)) 17451448556060671
  (.op (some 123) (.bin .eql (.t 117) (.t 122)) 36028797018963967
  .nil)))))))))))
  (.op (some 124) (.pick (.t 112) (.t 123) (.c (.bool false))) 72057594037927935
  (.op (some 125) (.move (.t 124)) 144115188075855871
  (.grd 125 true
  (.op (some 126) (.load (some 2) (.t 8)) 288230376151711743
  (.op (some 127) (.load (some 2) (.t 9)) 288230376151711743
  (.op (some 128) (.call 81 [(.t 126), (.t 127)]) 1152921504606846975
  (.op (some 129) (.load (some 2) (.t 12)) 288230376151711743
  (.op (some 130) (.call 79 [(.t 128), (.t 129)]) 4611686018427387903
  (.op (some 131) (.load (some 2) (.t 8)) 288230376151711743
  (.op (some 132) (.load (some 2) (.t 9)) 288230376151711743
  (.op (some 133) (.call 68 [(.c (.int .i64 0))]) 9223372036854775807
  (.op (some 134) (.call 83 [(.t 132), (.t 133)]) 64563604257983430655
  (.op (some 135) (.call 79 [(.t 131), (.t 134)]) 147573952589676412927
  (.op (some 136) (.call 71 [(.t 130), (.t 135)]) 295147905179352825855
  .nil)))))))))))
  (.op (some 137) (.pick (.t 125) (.t 136) (.c (.bool false))) 590295810358705651711
  (.op (some 6) (.move (.t 137)) 1180591620717411303423
  .nil)))))))))))))))))))))))))))))) true)
 .ret)))))))))),
 [.tmp 6]⟩
theorem b17 : fnOf Go.Proofs.Try.prog (owOf []) 17 = some c17 := by kernel_rfl

/-- bywash/bywashlaw01.BitsOne -/
def c19 : RFn := ⟨(.seq (.region (Nodes.flat none (.op (some 3) (.box (.t 0)) 0
  (.op (some 6) (.move (.c (.bool false))) 0
  .nil))) false)
 (.seq (.region (Nodes.flat none (.op (some 12) (.call 67 []) 0
  (.op (some 7) (.move (.t 12)) 0
  .nil))) false)
 (.seq (.region (Nodes.flat none (.op (some 13) (.load (some 2) (.t 3)) 0
  (.op (some 14) (.call 76 [(.t 13)]) 0
  (.op (some 8) (.alloc (.agg [(.int .i64 0), (.lit [])])) 0
  (.op none (.store 2 (.t 8) (.t 14)) 0
  .nil))))) false)
 (.seq (.seq (.region (Nodes.flat none (.op (some 15) (.load (some 2) (.t 3)) 0
  (.op (some 16) (.call 75 [(.t 15)]) 0
  (.op (some 17) (.un .not (.t 16)) 0
  (.op (some 18) (.move (.t 17)) 0
  (.grd 18 false
  (.op (some 19) (.load (some 2) (.t 8)) 0
  (.op (some 20) (.call 87 [(.t 19)]) 0
  (.op (some 21) (.un .not (.t 20)) 0
  .nil)))
  (.op (some 22) (.pick (.t 18) (.c (.bool true)) (.t 21)) 0
  .nil))))))) false)
 (.cond (.t 22)
 (.seq (.region (Nodes.flat none (.op (some 23) (.move (.t 7)) 0
  (.op (some 6) (.move (.t 23)) 0
  .nil))) false)
 .ret)
 .skip))
 (.seq (.region (Nodes.flat none (.op (some 24) (.load (some 2) (.t 8)) 0
  (.op (some 25) (.move (.t 1)) 0
  (.op (some 26) (.call 69 [(.t 24), (.t 25)]) 0
  (.op (some 9) (.alloc (.agg [(.int .i64 0), (.lit [])])) 0
  (.op none (.store 2 (.t 9) (.t 26)) 0
  .nil)))))) false)
 (.seq (.region (Nodes.flat none (.op (some 27) (.load (some 2) (.t 9)) 0
  (.op (some 28) (.move (.t 1)) 0
  (.op (some 29) (.call 88 [(.t 27), (.t 28)]) 0
  (.op (some 10) (.alloc (.agg [(.int .i64 0), (.lit [])])) 0
  (.op none (.store 2 (.t 10) (.t 29)) 0
  .nil)))))) false)
 (.seq (.region (Nodes.flat none (.op (some 30) (.move (.t 1)) 0
  (.op (some 31) (.bin .geq (.t 30) (.c (.int .i64 0))) 0
  (.op (some 32) (.move (.t 31)) 0
  (.grd 32 true
  (.op (some 33) (.move (.t 1)) 0
  (.op (some 34) (.fieldAddr 0 (.t 3)) 0
  (.op (some 35) (.load none (.t 34)) 0
  (.op (some 36) (.bin .lss (.t 33) (.t 35)) 0
  .nil))))
  (.op (some 37) (.pick (.t 32) (.t 36) (.c (.bool false))) 0
  (.op (some 11) (.move (.t 37)) 0
  .nil))))))) false)
 (.seq (.seq (.region (Nodes.flat none (.op (some 38) (.load (some 2) (.t 9)) 0
  (.op (some 39) (.move (.t 1)) 0
  (.op (some 40) (.call 72 [(.t 38), (.t 39)]) 3
  (.op (some 41) (.move (.t 11)) 0
  (.op (some 42) (.binb .neq (.t 40) (.t 41)) 15
  (.op (some 43) (.move (.t 42)) 31
  (.grd 43 false
  (.op (some 44) (.load (some 2) (.t 10)) 63
  (.op (some 45) (.move (.t 1)) 63
  (.op (some 46) (.call 72 [(.t 44), (.t 45)]) 255
  .nil)))
  (.op (some 47) (.pick (.t 43) (.c (.bool true)) (.t 46)) 511
  (.op (some 48) (.move (.t 47)) 1023
  (.grd 48 false
  (.op (some 49) (.move (.t 1)) 2047
  (.op (some 50) (.move (.t 2)) 2047
  (.op (some 51) (.bin .neq (.t 49) (.t 50)) 8191
  (.op (some 52) (.move (.t 51)) 16383
  (.grd 52 true
  (.op (some 53) (.load (some 2) (.t 9)) 32767
  (.op (some 54) (.move (.t 2)) 32767
  (.op (some 55) (.call 72 [(.t 53), (.t 54)]) 131071
  (.op (some 56) (.load (some 2) (.t 8)) 32767
  (.op (some 57) (.move (.t 2)) 32767
  (.op (some 58) (.call 72 [(.t 56), (.t 57)]) 1048575
  (.op (some 59) (.binb .neq (.t 55) (.t 58)) 2097151
  (.op (some 60) (.move (.t 59)) 4194303
  (.grd 60 false
  (.op (some 61) (.load (some 2) (.t 10)) 8388607
  (.op (some 62) (.move (.t 2)) 8388607
  (.op (some 63) (.call 72 [(.t 61), (.t 62)]) 33554431
  (.op (some 64) (.load (some 2) (.t 8)) 8388607
  (.op (some 65) (.move (.t 2)) 8388607
  (.op (some 66) (.call 72 [(.t 64), (.t 65)]) 268435455
  (.op (some 67) (.binb .neq (.t 63) (.t 66)) 536870911
  .nil)))))))
  (.op (some 68) (.pick (.t 60) (.c (.bool true)) (.t 67)) 1073741823
  .nil))))))))))
  (.op (some 69) (.pick (.t 52) (.t 68) (.c (.bool false))) 2147483647
  .nil))))))
  (.op (some 70) (.pick (.t 48) (.c (.bool true)) (.t 69)) 4294967295
  .nil)))))))))))) true)
 (.cond (.t 70)
 (.seq (.region (Nodes.flat none (.op (some 6) (.move (.c (.bool false))) 0
  .nil)) false)
 .ret)
 .skip))
 (.seq (.region (Nodes.flat none (.op (some 71) (.move (.t 7)) 0
  (.op (some 72) (.move (.t 71)) 0
  (.grd 72 true
  (.op (some 73) (.load (some 2) (.t 8)) 0
  (.op (some 74) (.move (.t 1)) 0
  (.op (some 75) (.call 72 [(.t 73), (.t 74)]) 0
  (.op (some 76) (.move (.t 75)) 0
  (.grd 76 false
  (.op (some 77) (.load (some 2) (.t 10)) 0
  (.op (some 78) (.load (some 2) (.t 8)) 0
  (.op (some 79) (.call 71 [(.t 77), (.t 78)]) 0
  .nil)))
  (.op (some 80) (.pick (.t 76) (.c (.bool true)) (.t 79)) 0
  .nil))))))
  (.op (some 81) (.pick (.t 72) (.t 80) (.c (.bool false))) 0
  (.op (some 82) (.move (.t 81)) 0
  (.grd 82 true
  (.op (some 83) (.move (.t 11)) 0
  (.op (some 84) (.move (.t 83)) 0
  (.grd 84 false
  (.op (some 85) (.load (some 2) (.t 9)) 0
  (.op (some 86) (.load (some 2) (.t 8)) 0
  (.op (some 87) (.call 71 [(.t 85), (.t 86)]) 0
  .nil)))
  (.op (some 88) (.pick (.t 84) (.c (.bool true)) (.t 87)) 0
  .nil))))
  (.op (some 89) (.pick (.t 82) (.t 88) (.c (.bool false))) 0
  (.op (some 90) (.move (.t 89)) 0
  (.grd 90 true
  (.op (some 91) (.load (some 2) (.t 9)) 0
  (.op (some 92) (.call 87 [(.t 91)]) 0
  .nil))
  (.op (some 93) (.pick (.t 90) (.t 92) (.c (.bool false))) 0
  (.op (some 94) (.move (.t 93)) 0
  (.grd 94 true
  (.op (some 95) (.load (some 2) (.t 10)) 0
  (.op (some 96) (.call 87 [(.t 95)]) 0
  .nil))
  (.op (some 97) (.pick (.t 94) (.t 96) (.c (.bool false))) 0
  (.op (some 98) (.move (.t 97)) 0
  (.grd 98 true
  (.op (some 99) (.load (some 2) (.t 8)) 0
  (.op (some 100) (.load (some 2) (.t 9)) 0
  (.op (some 101) (.call 70 [(.t 99), (.t 100)]) 0
  .nil)))
  (.op (some 102) (.pick (.t 98) (.t 101) (.c (.bool false))) 0
  (.op (some 103) (.move (.t 102)) 0
  (.grd 103 true
  (.op (some 104) (.load (some 2) (.t 10)) 0
  (.op (some 105) (.load (some 2) (.t 9)) 0
  (.op (some 106) (.call 70 [(.t 104), (.t 105)]) 0
  .nil)))
  (.op (some 107) (.pick (.t 103) (.t 106) (.c (.bool false))) 0
  (.op (some 6) (.move (.t 107)) 0
  .nil))))))))))))))))))))) false)
 .ret))))))))),
 [.tmp 6]⟩
theorem b19 : fnOf Go.Proofs.Try.prog (owOf []) 19 = some c19 := by kernel_rfl

end Go.Vm
