/- Laid. -/
import Derived.Test.YtlcbceneacnaiaaVmThree
import Derived.KernelRfl
import Derived.Test.YtlcbceneacnaiaaProg
/- Code. -/
set_option maxRecDepth 100000
set_option linter.unusedSimpArgs false
set_option linter.unusedVariables false
namespace Go.Vm
open Go

/-- bywash/bywashlaw04.EnvLattice -/
def c3 : RFn := ⟨(.seq (.region (Nodes.flat none (.op (some 3) (.box (.t 0)) 0
  (.op (some 4) (.box (.t 1)) 0
  (.op (some 5) (.box (.t 2)) 0
  (.op (some 6) (.move (.c (.bool false))) 0
  .nil))))) false)
 (.seq (.region (Nodes.flat none (.op (some 12) (.call 9 []) 0
  (.op (some 7) (.move (.t 12)) 0
  .nil))) false)
 (.seq (.seq (.region (Nodes.flat none (.op (some 13) (.fieldAddr 1 (.t 3)) 0
  (.op (some 14) (.load none (.t 13)) 0
  (.op (some 15) (.len false (.t 14)) 0
  (.op (some 16) (.bin .gtr (.t 15) (.c (.int .i64 100))) 0
  (.op (some 17) (.move (.t 16)) 0
  (.grd 17 false
  (.op (some 18) (.fieldAddr 1 (.t 4)) 0
  (.op (some 19) (.load none (.t 18)) 0
  (.op (some 20) (.len false (.t 19)) 0
  (.op (some 21) (.bin .gtr (.t 20) (.c (.int .i64 100))) 0
  .nil))))
  (.op (some 22) (.pick (.t 17) (.c (.bool true)) (.t 21)) 0
  (.op (some 23) (.move (.t 22)) 0
  (.grd 23 false
  (.op (some 24) (.fieldAddr 1 (.t 5)) 0
  (.op (some 25) (.load none (.t 24)) 0
  (.op (some 26) (.len false (.t 25)) 0
  (.op (some 27) (.bin .gtr (.t 26) (.c (.int .i64 100))) 0
  .nil))))
  (.op (some 28) (.pick (.t 23) (.c (.bool true)) (.t 27)) 0
  .nil))))))))))) false)
 (.cond (.t 28)
 (.seq (.region (Nodes.flat none (.op (some 29) (.move (.t 7)) 0
  (.op (some 6) (.move (.t 29)) 0
  .nil))) false)
 .ret)
 .skip))
 (.seq (.region (Nodes.flat none (.op (some 30) (.load (some 2) (.t 3)) 0
  (.op (some 31) (.call 10 [(.t 30)]) 0
  (.op (some 8) (.alloc (.agg [(.bool false), (.lit [])])) 0
  (.op none (.store 2 (.t 8) (.t 31)) 0
  .nil))))) false)
 (.seq (.region (Nodes.flat none (.op (some 32) (.load (some 2) (.t 4)) 0
  (.op (some 33) (.call 10 [(.t 32)]) 0
  (.op (some 9) (.alloc (.agg [(.bool false), (.lit [])])) 0
  (.op none (.store 2 (.t 9) (.t 33)) 0
  .nil))))) false)
 (.seq (.region (Nodes.flat none (.op (some 34) (.load (some 2) (.t 5)) 0
  (.op (some 35) (.call 10 [(.t 34)]) 0
  (.op (some 10) (.alloc (.agg [(.bool false), (.lit [])])) 0
  (.op none (.store 2 (.t 10) (.t 35)) 0
  .nil))))) false)
 (.seq (.region (Nodes.flat none (.op (some 36) (.load (some 2) (.t 8)) 0
  (.op (some 37) (.load (some 2) (.t 9)) 0
  (.op (some 38) (.call 11 [(.t 36), (.t 37)]) 0
  (.op (some 11) (.alloc (.agg [(.bool false), (.lit [])])) 0
  (.op none (.store 2 (.t 11) (.t 38)) 0
  .nil)))))) false)
 (.seq (.seq (.region (Nodes.flat none (.op (some 39) (.load (some 2) (.t 8)) 0
  (.op (some 40) (.load (some 2) (.t 9)) 0
  (.op (some 41) (.call 12 [(.t 39), (.t 40)]) 3
  (.op (some 42) (.move (.t 41)) 7
  (.grd 42 true
  (.op (some 43) (.load (some 2) (.t 9)) 15
  (.op (some 44) (.load (some 2) (.t 10)) 15
  (.op (some 45) (.call 12 [(.t 43), (.t 44)]) 63
  .nil)))
  (.op (some 46) (.pick (.t 42) (.t 45) (.c (.bool false))) 127
  (.op (some 47) (.move (.t 46)) 255
  (.grd 47 true
  (.op (some 48) (.load (some 2) (.t 8)) 511
  (.op (some 49) (.load (some 2) (.t 10)) 511
  (.op (some 50) (.call 12 [(.t 48), (.t 49)]) 2047
  (.op (some 51) (.un .not (.t 50)) 4095
  .nil))))
  (.op (some 52) (.pick (.t 47) (.t 51) (.c (.bool false))) 8191
  (.op (some 53) (.move (.t 52)) 16383
  (.grd 53 false
  (.op (some 54) (.load (some 2) (.t 8)) 32767
  (.op (some 55) (.load (some 2) (.t 10)) 32767
  (.op (some 56) (.call 12 [(.t 54), (.t 55)]) 131071
  (.op (some 57) (.move (.t 56)) 262143
  (.grd 57 true
  (.op (some 58) (.load (some 2) (.t 9)) 524287
  (.op (some 59) (.load (some 2) (.t 10)) 524287
  (.op (some 60) (.call 12 [(.t 58), (.t 59)]) 2097151
  .nil)))
  (.op (some 61) (.pick (.t 57) (.t 60) (.c (.bool false))) 4194303
  (.op (some 62) (.load (some 2) (.t 11)) 32767
  (.op (some 63) (.load (some 2) (.t 10)) 32767
  (.op (some 64) (.call 12 [(.t 62), (.t 63)]) 29360127
  (.op (some 65) (.binb .neq (.t 61) (.t 64)) 67108863
  .nil))))))))))
  (.op (some 66) (.pick (.t 53) (.c (.bool true)) (.t 65)) 134217727
  .nil))))))))))))) true)
 (.cond (.t 66)
 (.seq (.region (Nodes.flat none (.op (some 6) (.move (.c (.bool false))) 0
  .nil)) false)
 .ret)
 .skip))
 (.seq (.region (Nodes.flat none (.op (some 67) (.move (.t 7)) 0
  (.op (some 68) (.move (.t 67)) 1
  (.grd 68 true
  (.op (some 69) (.load (some 2) (.t 8)) 3
  (.op (some 70) (.load (some 2) (.t 8)) 3
  (.op (some 71) (.call 12 [(.t 69), (.t 70)]) 15
  .nil)))
  (.op (some 72) (.pick (.t 68) (.t 71) (.c (.bool false))) 31
  (.op (some 73) (.move (.t 72)) 63
  (.grd 73 true
  (.op (some 74) (.load (some 2) (.t 8)) 127
  (.op (some 75) (.load (some 2) (.t 11)) 127
  (.op (some 76) (.call 12 [(.t 74), (.t 75)]) 511
  .nil)))
  (.op (some 77) (.pick (.t 73) (.t 76) (.c (.bool false))) 1023
  (.op (some 78) (.move (.t 77)) 2047
  (.grd 78 true
  (.op (some 79) (.load (some 2) (.t 9)) 4095
  (.op (some 80) (.load (some 2) (.t 11)) 4095
  (.op (some 81) (.call 12 [(.t 79), (.t 80)]) 16383
  .nil)))
  (.op (some 82) (.pick (.t 78) (.t 81) (.c (.bool false))) 32767
  (.op (some 83) (.move (.t 82)) 65535
  (.grd 83 true
  (.op (some 84) (.load (some 2) (.t 11)) 131071
  (.op (some 85) (.call 14 [(.t 84)]) 262143
  (.op (some 86) (.load (some 2) (.t 9)) 131071
  (.op (some 87) (.load (some 2) (.t 8)) 131071
  (.op (some 88) (.call 11 [(.t 86), (.t 87)]) 2097151
  (.op (some 89) (.call 14 [(.t 88)]) 4194303
  (.op (some 90) (.call 13 [(.t 85), (.t 89)]) 8388607
  .nil)))))))
  (.op (some 91) (.pick (.t 83) (.t 90) (.c (.bool false))) 16777215
  (.op (some 92) (.move (.t 91)) 33554431
  (.grd 92 true
  (.op (some 93) (.load (some 2) (.t 11)) 67108863
  (.op (some 94) (.load (some 2) (.t 10)) 67108863
  (.op (some 95) (.call 11 [(.t 93), (.t 94)]) 268435455
  (.op (some 96) (.call 14 [(.t 95)]) 536870911
  (.op (some 97) (.load (some 2) (.t 8)) 67108863
  (.op (some 98) (.load (some 2) (.t 9)) 67108863
  (.op (some 99) (.load (some 2) (.t 10)) 67108863
  (.op (some 100) (.call 11 [(.t 98), (.t 99)]) 7516192767
  (.op (some 101) (.call 11 [(.t 97), (.t 100)]) 17179869183
  (.op (some 102) (.call 14 [(.t 101)]) 34359738367
  (.op (some 103) (.call 13 [(.t 96), (.t 102)]) 68719476735
  .nil)))))))))))
  (.op (some 104) (.pick (.t 92) (.t 103) (.c (.bool false))) 137438953471
  (.op (some 105) (.move (.t 104)) 274877906943
  (.grd 105 true
  (.op (some 106) (.build [(.bool false), (.lit [])] []) 549755813887
  (.op (some 107) (.load (some 2) (.t 8)) 549755813887
  (.op (some 108) (.call 12 [(.t 106), (.t 107)]) 2199023255551
  .nil)))
  (.op (some 109) (.pick (.t 105) (.t 108) (.c (.bool false))) 4398046511103
  (.op (some 6) (.move (.t 109)) 8796093022207
  .nil))))))))))))))))))))) true)
 .ret))))))))),
 [.tmp 6]⟩
theorem b3 : fnOf Go.Proofs.Try.prog (owOf []) 3 = some c3 := by kernel_rfl

/-- bywash/bywashlaw04.EnvSets -/
def c4 : RFn := ⟨(.seq (.region (Nodes.flat none (.op (some 4) (.box (.t 0)) 0
  (.op (some 7) (.box (.t 3)) 0
  (.op (some 8) (.move (.c (.bool false))) 0
  .nil)))) false)
 (.seq (.region (Nodes.flat none (.op (some 14) (.call 9 []) 0
  (.op (some 9) (.move (.t 14)) 0
  .nil))) false)
 (.seq (.seq (.region (Nodes.flat none (.op (some 15) (.fieldAddr 1 (.t 4)) 0
  (.op (some 16) (.load none (.t 15)) 0
  (.op (some 17) (.len false (.t 16)) 0
  (.op (some 18) (.bin .gtr (.t 17) (.c (.int .i64 100))) 0
  .nil))))) false)
 (.cond (.t 18)
 (.seq (.region (Nodes.flat none (.op (some 19) (.move (.t 9)) 0
  (.op (some 8) (.move (.t 19)) 0
  .nil))) false)
 .ret)
 .skip))
 (.seq (.region (Nodes.flat none (.op (some 20) (.load (some 2) (.t 4)) 0
  (.op (some 21) (.call 10 [(.t 20)]) 0
  (.op (some 10) (.alloc (.agg [(.bool false), (.lit [])])) 0
  (.op none (.store 2 (.t 10) (.t 21)) 0
  .nil))))) false)
 (.seq (.region (Nodes.flat none (.op (some 22) (.fieldAddr 0 (.t 7)) 0
  (.op (some 23) (.load none (.t 22)) 0
  (.op (some 24) (.fieldAddr 1 (.t 7)) 0
  (.op (some 25) (.load none (.t 24)) 0
  (.op (some 26) (.build [(.int .i64 0), (.int .i64 0)] [(0, 1, (.t 23)), (1, 1, (.t 25))]) 0
  (.op (some 11) (.alloc (.agg [(.int .i64 0), (.int .i64 0)])) 0
  (.op none (.store 2 (.t 11) (.t 26)) 0
  .nil)))))))) false)
 (.seq (.region (Nodes.flat none (.op (some 27) (.load (some 2) (.t 10)) 0
  (.op (some 28) (.move (.t 1)) 0
  (.op (some 29) (.load (some 2) (.t 11)) 0
  (.op (some 30) (.call 15 [(.t 27), (.t 28), (.t 29)]) 0
  (.op (some 12) (.alloc (.agg [(.bool false), (.lit [])])) 0
  (.op none (.store 2 (.t 12) (.t 30)) 0
  .nil))))))) false)
 (.seq (.region (Nodes.flat none (.op (some 31) (.fieldAddr 0 (.t 4)) 0
  (.op (some 32) (.load none (.t 31)) 0
  (.op (some 33) (.move (.t 32)) 0
  (.grd 33 true
  (.op (some 34) (.move (.t 1)) 0
  (.op (some 35) (.bin .geq (.t 34) (.c (.int .i64 0))) 0
  .nil))
  (.op (some 36) (.pick (.t 33) (.t 35) (.c (.bool false))) 0
  (.op (some 37) (.move (.t 36)) 0
  (.grd 37 true
  (.op (some 38) (.move (.t 1)) 0
  (.op (some 39) (.fieldAddr 1 (.t 4)) 0
  (.op (some 40) (.load none (.t 39)) 0
  (.op (some 41) (.len false (.t 40)) 0
  (.op (some 42) (.bin .lss (.t 38) (.t 41)) 0
  .nil)))))
  (.op (some 43) (.pick (.t 37) (.t 42) (.c (.bool false))) 0
  (.op (some 13) (.move (.t 43)) 0
  .nil)))))))))) false)
 (.seq (.seq (.region (Nodes.flat none (.op (some 44) (.move (.t 13)) 0
  (.op (some 45) (.move (.t 44)) 1
  (.grd 45 true
  (.op (some 46) (.load (some 2) (.t 12)) 3
  (.op (some 47) (.move (.t 1)) 3
  (.op (some 48) (.call 16 [(.t 46), (.t 47)]) 15
  (.op (some 49) (.load (some 2) (.t 11)) 3
  (.op (some 50) (.build [(.int .i64 0), (.int .i64 0)] []) 3
  (.op (some 51) (.call 17 [(.t 49), (.t 50)]) 127
  (.op (some 52) (.eqs true [(0, 1), (1, 1)] (.t 48) (.t 51)) 255
  .nil)))))))
  (.op (some 53) (.pick (.t 45) (.t 52) (.c (.bool false))) 511
  (.op (some 54) (.move (.t 53)) 1023
  (.grd 54 false
  (.op (some 55) (.move (.t 2)) 2047
  (.op (some 56) (.move (.t 1)) 2047
  (.op (some 57) (.bin .neq (.t 55) (.t 56)) 8191
  (.op (some 58) (.move (.t 57)) 16383
  (.grd 58 false
  (.op (some 59) (.move (.t 13)) 32767
  (.op (some 60) (.un .not (.t 59)) 65535
  .nil))
  (.op (some 61) (.pick (.t 58) (.c (.bool true)) (.t 60)) 131071
  (.op (some 62) (.move (.t 61)) 262143
  (.grd 62 true
  (.op (some 63) (.load (some 2) (.t 12)) 524287
  (.op (some 64) (.move (.t 2)) 524287
  (.op (some 65) (.call 16 [(.t 63), (.t 64)]) 2097151
  (.op (some 66) (.load (some 2) (.t 10)) 524287
  (.op (some 67) (.move (.t 2)) 524287
  (.op (some 68) (.call 16 [(.t 66), (.t 67)]) 16777215
  (.op (some 69) (.eqs true [(0, 1), (1, 1)] (.t 65) (.t 68)) 33554431
  .nil)))))))
  (.op (some 70) (.pick (.t 62) (.t 69) (.c (.bool false))) 67108863
  .nil)))))))))
  (.op (some 71) (.pick (.t 54) (.c (.bool true)) (.t 70)) 134217727
  .nil)))))))) true)
 (.cond (.t 71)
 (.seq (.region (Nodes.flat none (.op (some 8) (.move (.c (.bool false))) 0
  .nil)) false)
 .ret)
 .skip))
 (.seq (.region (Nodes.flat none (.op (some 72) (.move (.t 9)) 0
  (.op (some 73) (.move (.t 72)) 1
  (.grd 73 true
  (.op (some 74) (.fieldAddr 0 (.t 12)) 3
  (.op (some 75) (.load none (.t 74)) 7
  (.op (some 76) (.fieldAddr 0 (.t 4)) 3
  (.op (some 77) (.load none (.t 76)) 19
  (.op (some 78) (.binb .eql (.t 75) (.t 77)) 63
  .nil)))))
  (.op (some 79) (.pick (.t 73) (.t 78) (.c (.bool false))) 127
  (.op (some 80) (.move (.t 79)) 255
  (.grd 80 true
  (.op (some 81) (.fieldAddr 0 (.t 4)) 511
  (.op (some 82) (.load none (.t 81)) 1023
  (.op (some 83) (.un .not (.t 82)) 2047
  (.op (some 84) (.move (.t 83)) 4095
  (.grd 84 false
  (.op (some 85) (.fieldAddr 1 (.t 12)) 8191
  (.op (some 86) (.load none (.t 85)) 16383
  (.op (some 87) (.len false (.t 86)) 32767
  (.op (some 88) (.fieldAddr 1 (.t 4)) 8191
  (.op (some 89) (.load none (.t 88)) 73727
  (.op (some 90) (.len false (.t 89)) 204799
  (.op (some 91) (.bin .eql (.t 87) (.t 90)) 524287
  .nil)))))))
  (.op (some 92) (.pick (.t 84) (.c (.bool true)) (.t 91)) 1048575
  .nil))))))
  (.op (some 93) (.pick (.t 80) (.t 92) (.c (.bool false))) 2097151
  (.op (some 94) (.move (.t 93)) 4194303
  (.grd 94 true
  (.op (some 95) (.load (some 2) (.t 10)) 8388607
  (.op (some 96) (.move (.t 1)) 8388607
  (.op (some 97) (.build [(.int .i64 0), (.int .i64 0)] []) 8388607
  (.op (some 98) (.call 15 [(.t 95), (.t 96), (.t 97)]) 67108863
  (.op (some 99) (.load (some 2) (.t 12)) 8388607
  (.op (some 100) (.call 12 [(.t 98), (.t 99)]) 268435455
  .nil))))))
  (.op (some 101) (.pick (.t 94) (.t 100) (.c (.bool false))) 536870911
  (.op (some 102) (.move (.t 101)) 1073741823
  (.grd 102 true
  (.op (some 103) (.load (some 2) (.t 12)) 2147483647
  (.op (some 104) (.load (some 2) (.t 10)) 2147483647
  (.op (some 105) (.move (.t 1)) 2147483647
  (.op (some 106) (.build [(.int .i64 0), (.int .i64 0)] [(0, 1, (.c (.int .i64 2)))]) 2147483647
  (.op (some 107) (.call 15 [(.t 104), (.t 105), (.t 106)]) 32212254719
  (.op (some 108) (.call 12 [(.t 103), (.t 107)]) 68719476735
  .nil))))))
  (.op (some 109) (.pick (.t 102) (.t 108) (.c (.bool false))) 137438953471
  (.op (some 8) (.move (.t 109)) 274877906943
  .nil))))))))))))))) true)
 .ret))))))))),
 [.tmp 8]⟩
theorem b4 : fnOf Go.Proofs.Try.prog (owOf []) 4 = some c4 := by kernel_rfl

/-- bywash/bywashlaw04.EnvAbove -/
def c5 : RFn := ⟨(.seq (.region (Nodes.flat none (.op (some 3) (.box (.t 0)) 0
  (.op (some 4) (.box (.t 1)) 0
  (.op (some 5) (.box (.t 2)) 0
  (.op (some 6) (.move (.c (.bool false))) 0
  .nil))))) false)
 (.seq (.region (Nodes.flat none (.op (some 12) (.call 9 []) 0
  (.op (some 7) (.move (.t 12)) 0
  .nil))) false)
 (.seq (.seq (.region (Nodes.flat none (.op (some 13) (.fieldAddr 1 (.t 3)) 0
  (.op (some 14) (.load none (.t 13)) 0
  (.op (some 15) (.len false (.t 14)) 0
  (.op (some 16) (.bin .gtr (.t 15) (.c (.int .i64 100))) 0
  (.op (some 17) (.move (.t 16)) 0
  (.grd 17 false
  (.op (some 18) (.fieldAddr 1 (.t 4)) 0
  (.op (some 19) (.load none (.t 18)) 0
  (.op (some 20) (.len false (.t 19)) 0
  (.op (some 21) (.bin .gtr (.t 20) (.c (.int .i64 100))) 0
  .nil))))
  (.op (some 22) (.pick (.t 17) (.c (.bool true)) (.t 21)) 0
  (.op (some 23) (.move (.t 22)) 0
  (.grd 23 false
  (.op (some 24) (.fieldAddr 1 (.t 5)) 0
  (.op (some 25) (.load none (.t 24)) 0
  (.op (some 26) (.len false (.t 25)) 0
  (.op (some 27) (.bin .gtr (.t 26) (.c (.int .i64 100))) 0
  .nil))))
  (.op (some 28) (.pick (.t 23) (.c (.bool true)) (.t 27)) 0
  .nil))))))))))) false)
 (.cond (.t 28)
 (.seq (.region (Nodes.flat none (.op (some 29) (.move (.t 7)) 0
  (.op (some 6) (.move (.t 29)) 0
  .nil))) false)
 .ret)
 .skip))
 (.seq (.region (Nodes.flat none (.op (some 30) (.load (some 2) (.t 3)) 0
  (.op (some 31) (.call 18 [(.t 30)]) 0
  (.op (some 8) (.alloc (.agg [(.bool false), (.lit [])])) 0
  (.op none (.store 2 (.t 8) (.t 31)) 0
  .nil))))) false)
 (.seq (.region (Nodes.flat none (.op (some 32) (.load (some 2) (.t 4)) 0
  (.op (some 33) (.call 18 [(.t 32)]) 0
  (.op (some 9) (.alloc (.agg [(.bool false), (.lit [])])) 0
  (.op none (.store 2 (.t 9) (.t 33)) 0
  .nil))))) false)
 (.seq (.region (Nodes.flat none (.op (some 34) (.load (some 2) (.t 5)) 0
  (.op (some 35) (.call 18 [(.t 34)]) 0
  (.op (some 10) (.alloc (.agg [(.bool false), (.lit [])])) 0
  (.op none (.store 2 (.t 10) (.t 35)) 0
  .nil))))) false)
 (.seq (.region (Nodes.flat none (.op (some 36) (.load (some 2) (.t 8)) 0
  (.op (some 37) (.load (some 2) (.t 9)) 0
  (.op (some 38) (.call 19 [(.t 36), (.t 37)]) 0
  (.op (some 11) (.alloc (.agg [(.bool false), (.lit [])])) 0
  (.op none (.store 2 (.t 11) (.t 38)) 0
  .nil)))))) false)
 (.seq (.seq (.region (Nodes.flat none (.op (some 39) (.load (some 2) (.t 8)) 0
  (.op (some 40) (.load (some 2) (.t 9)) 0
  (.op (some 41) (.call 20 [(.t 39), (.t 40)]) 3
  (.op (some 42) (.move (.t 41)) 7
  (.grd 42 true
  (.op (some 43) (.load (some 2) (.t 9)) 15
  (.op (some 44) (.load (some 2) (.t 10)) 15
  (.op (some 45) (.call 20 [(.t 43), (.t 44)]) 63
  .nil)))
  (.op (some 46) (.pick (.t 42) (.t 45) (.c (.bool false))) 127
  (.op (some 47) (.move (.t 46)) 255
  (.grd 47 true
  (.op (some 48) (.load (some 2) (.t 8)) 511
  (.op (some 49) (.load (some 2) (.t 10)) 511
  (.op (some 50) (.call 20 [(.t 48), (.t 49)]) 2047
  (.op (some 51) (.un .not (.t 50)) 4095
  .nil))))
  (.op (some 52) (.pick (.t 47) (.t 51) (.c (.bool false))) 8191
  (.op (some 53) (.move (.t 52)) 16383
  (.grd 53 false
  (.op (some 54) (.load (some 2) (.t 8)) 32767
  (.op (some 55) (.load (some 2) (.t 10)) 32767
  (.op (some 56) (.call 20 [(.t 54), (.t 55)]) 131071
  (.op (some 57) (.move (.t 56)) 262143
  (.grd 57 true
  (.op (some 58) (.load (some 2) (.t 9)) 524287
  (.op (some 59) (.load (some 2) (.t 10)) 524287
  (.op (some 60) (.call 20 [(.t 58), (.t 59)]) 2097151
  .nil)))
  (.op (some 61) (.pick (.t 57) (.t 60) (.c (.bool false))) 4194303
  (.op (some 62) (.load (some 2) (.t 11)) 32767
  (.op (some 63) (.load (some 2) (.t 10)) 32767
  (.op (some 64) (.call 20 [(.t 62), (.t 63)]) 29360127
  (.op (some 65) (.binb .neq (.t 61) (.t 64)) 67108863
  .nil))))))))))
  (.op (some 66) (.pick (.t 53) (.c (.bool true)) (.t 65)) 134217727
  .nil))))))))))))) true)
 (.cond (.t 66)
 (.seq (.region (Nodes.flat none (.op (some 6) (.move (.c (.bool false))) 0
  .nil)) false)
 .ret)
 .skip))
 (.seq (.region (Nodes.flat none (.op (some 67) (.move (.t 7)) 0
  (.op (some 68) (.move (.t 67)) 1
  (.grd 68 true
  (.op (some 69) (.load (some 2) (.t 8)) 3
  (.op (some 70) (.load (some 2) (.t 8)) 3
  (.op (some 71) (.call 20 [(.t 69), (.t 70)]) 15
  .nil)))
  (.op (some 72) (.pick (.t 68) (.t 71) (.c (.bool false))) 31
  (.op (some 73) (.move (.t 72)) 63
  (.grd 73 true
  (.op (some 74) (.load (some 2) (.t 8)) 127
  (.op (some 75) (.load (some 2) (.t 11)) 127
  (.op (some 76) (.call 20 [(.t 74), (.t 75)]) 511
  .nil)))
  (.op (some 77) (.pick (.t 73) (.t 76) (.c (.bool false))) 1023
  (.op (some 78) (.move (.t 77)) 2047
  (.grd 78 true
  (.op (some 79) (.load (some 2) (.t 9)) 4095
  (.op (some 80) (.load (some 2) (.t 11)) 4095
  (.op (some 81) (.call 20 [(.t 79), (.t 80)]) 16383
  .nil)))
  (.op (some 82) (.pick (.t 78) (.t 81) (.c (.bool false))) 32767
  (.op (some 83) (.move (.t 82)) 65535
  (.grd 83 true
  (.op (some 84) (.load (some 2) (.t 11)) 131071
  (.op (some 85) (.call 22 [(.t 84)]) 262143
  (.op (some 86) (.load (some 2) (.t 9)) 131071
  (.op (some 87) (.load (some 2) (.t 8)) 131071
  (.op (some 88) (.call 19 [(.t 86), (.t 87)]) 2097151
  (.op (some 89) (.call 22 [(.t 88)]) 4194303
  (.op (some 90) (.call 21 [(.t 85), (.t 89)]) 8388607
  .nil)))))))
  (.op (some 91) (.pick (.t 83) (.t 90) (.c (.bool false))) 16777215
  (.op (some 92) (.move (.t 91)) 33554431
  (.grd 92 true
  (.op (some 93) (.load (some 2) (.t 11)) 67108863
  (.op (some 94) (.load (some 2) (.t 10)) 67108863
  (.op (some 95) (.call 19 [(.t 93), (.t 94)]) 268435455
  (.op (some 96) (.call 22 [(.t 95)]) 536870911
  (.op (some 97) (.load (some 2) (.t 8)) 67108863
  (.op (some 98) (.load (some 2) (.t 9)) 67108863
  (.op (some 99) (.load (some 2) (.t 10)) 67108863
  (.op (some 100) (.call 19 [(.t 98), (.t 99)]) 7516192767
  (.op (some 101) (.call 19 [(.t 97), (.t 100)]) 17179869183
  (.op (some 102) (.call 22 [(.t 101)]) 34359738367
  (.op (some 103) (.call 21 [(.t 96), (.t 102)]) 68719476735
  .nil)))))))))))
  (.op (some 104) (.pick (.t 92) (.t 103) (.c (.bool false))) 137438953471
  (.op (some 105) (.move (.t 104)) 274877906943
  (.grd 105 true
  (.op (some 106) (.build [(.bool false), (.lit [])] []) 549755813887
  (.op (some 107) (.load (some 2) (.t 8)) 549755813887
  (.op (some 108) (.call 20 [(.t 106), (.t 107)]) 2199023255551
  .nil)))
  (.op (some 109) (.pick (.t 105) (.t 108) (.c (.bool false))) 4398046511103
  (.op (some 6) (.move (.t 109)) 8796093022207
  .nil))))))))))))))))))))) true)
 .ret))))))))),
 [.tmp 6]⟩
theorem b5 : fnOf Go.Proofs.Try.prog (owOf []) 5 = some c5 := by kernel_rfl

/-- bywash/bywashlaw04.EnvFlat -/
def c6 : RFn := ⟨(.seq (.region (Nodes.flat none (.op (some 5) (.box (.t 0)) 0
  (.op (some 6) (.box (.t 1)) 0
  (.op (some 8) (.box (.t 3)) 0
  (.op (some 10) (.move (.c (.bool false))) 0
  .nil))))) false)
 (.seq (.region (Nodes.flat none (.op (some 16) (.call 9 []) 0
  (.op (some 11) (.move (.t 16)) 0
  .nil))) false)
 (.seq (.seq (.region (Nodes.flat none (.op (some 17) (.fieldAddr 1 (.t 5)) 0
  (.op (some 18) (.load none (.t 17)) 0
  (.op (some 19) (.len false (.t 18)) 0
  (.op (some 20) (.bin .gtr (.t 19) (.c (.int .i64 100))) 0
  (.op (some 21) (.move (.t 20)) 0
  (.grd 21 false
  (.op (some 22) (.fieldAddr 1 (.t 6)) 0
  (.op (some 23) (.load none (.t 22)) 0
  (.op (some 24) (.len false (.t 23)) 0
  (.op (some 25) (.bin .gtr (.t 24) (.c (.int .i64 100))) 0
  .nil))))
  (.op (some 26) (.pick (.t 21) (.c (.bool true)) (.t 25)) 0
  .nil)))))))) false)
 (.cond (.t 26)
 (.seq (.region (Nodes.flat none (.op (some 27) (.move (.t 11)) 0
  (.op (some 10) (.move (.t 27)) 0
  .nil))) false)
 .ret)
 .skip))
 (.seq (.region (Nodes.flat none (.op (some 28) (.load (some 2) (.t 5)) 0
  (.op (some 29) (.call 10 [(.t 28)]) 0
  (.op (some 12) (.alloc (.agg [(.bool false), (.lit [])])) 0
  (.op none (.store 2 (.t 12) (.t 29)) 0
  .nil))))) false)
 (.seq (.region (Nodes.flat none (.op (some 30) (.load (some 2) (.t 6)) 0
  (.op (some 31) (.call 10 [(.t 30)]) 0
  (.op (some 13) (.alloc (.agg [(.bool false), (.lit [])])) 0
  (.op none (.store 2 (.t 13) (.t 31)) 0
  .nil))))) false)
 (.seq (.region (Nodes.flat none (.op (some 32) (.fieldAddr 0 (.t 8)) 0
  (.op (some 33) (.load none (.t 32)) 0
  (.op (some 34) (.fieldAddr 1 (.t 8)) 0
  (.op (some 35) (.load none (.t 34)) 0
  (.op (some 36) (.build [(.int .i64 0), (.int .i64 0)] [(0, 1, (.t 33)), (1, 1, (.t 35))]) 0
  (.op (some 14) (.alloc (.agg [(.int .i64 0), (.int .i64 0)])) 0
  (.op none (.store 2 (.t 14) (.t 36)) 0
  .nil)))))))) false)
 (.seq (.region (Nodes.flat none (.op (some 37) (.load (some 2) (.t 12)) 0
  (.op (some 38) (.move (.t 2)) 0
  (.op (some 39) (.call 16 [(.t 37), (.t 38)]) 0
  (.op (some 15) (.alloc (.agg [(.int .i64 0), (.int .i64 0)])) 0
  (.op none (.store 2 (.t 15) (.t 39)) 0
  .nil)))))) false)
 (.seq (.seq (.region (Nodes.flat none (.op (some 40) (.fieldAddr 0 (.t 15)) 0
  (.op (some 41) (.load none (.t 40)) 1
  (.op (some 42) (.fieldAddr 1 (.t 15)) 0
  (.op (some 43) (.load none (.t 42)) 4
  (.op (some 44) (.build [(.int .i64 0), (.int .i64 0)] [(0, 1, (.t 41)), (1, 1, (.t 43))]) 15
  (.op (some 45) (.load (some 2) (.t 5)) 0
  (.op (some 46) (.move (.t 2)) 0
  (.op (some 47) (.call 23 [(.t 45), (.t 46)]) 96
  (.op (some 48) (.eqs true [(0, 1), (1, 1)] (.t 44) (.t 47)) 255
  (.op (some 49) (.move (.t 48)) 511
  (.grd 49 false
  (.op (some 50) (.load (some 2) (.t 12)) 1023
  (.op (some 51) (.load (some 2) (.t 13)) 1023
  (.op (some 52) (.call 12 [(.t 50), (.t 51)]) 4095
  (.op (some 53) (.load (some 2) (.t 5)) 1023
  (.op (some 54) (.load (some 2) (.t 6)) 1023
  (.op (some 55) (.call 24 [(.t 53), (.t 54)]) 32767
  (.op (some 56) (.binb .neq (.t 52) (.t 55)) 65535
  .nil)))))))
  (.op (some 57) (.pick (.t 49) (.c (.bool true)) (.t 56)) 131071
  .nil))))))))))))) true)
 (.cond (.t 57)
 (.seq (.region (Nodes.flat none (.op (some 10) (.move (.c (.bool false))) 0
  .nil)) false)
 .ret)
 .skip))
 (.seq (.region (Nodes.flat none (.op (some 58) (.move (.t 11)) 0
  (.op (some 59) (.move (.t 58)) 1
  (.grd 59 true
  (.op (some 60) (.load (some 2) (.t 12)) 3
  (.op (some 61) (.load (some 2) (.t 13)) 3
  (.op (some 62) (.call 11 [(.t 60), (.t 61)]) 15
  (.op (some 63) (.call 14 [(.t 62)]) 31
  (.op (some 64) (.load (some 2) (.t 5)) 3
  (.op (some 65) (.load (some 2) (.t 6)) 3
  (.op (some 66) (.call 25 [(.t 64), (.t 65)]) 255
  (.op (some 67) (.call 13 [(.t 63), (.t 66)]) 511
  .nil))))))))
  (.op (some 68) (.pick (.t 59) (.t 67) (.c (.bool false))) 1023
  (.op (some 69) (.move (.t 68)) 2047
  (.grd 69 true
  (.op (some 70) (.load (some 2) (.t 12)) 4095
  (.op (some 71) (.move (.t 2)) 4095
  (.op (some 72) (.load (some 2) (.t 14)) 4095
  (.op (some 73) (.call 15 [(.t 70), (.t 71), (.t 72)]) 32767
  (.op (some 74) (.call 14 [(.t 73)]) 65535
  (.op (some 75) (.load (some 2) (.t 5)) 4095
  (.op (some 76) (.move (.t 2)) 4095
  (.op (some 77) (.load (some 2) (.t 8)) 4095
  (.op (some 78) (.call 26 [(.t 75), (.t 76), (.t 77)]) 1048575
  (.op (some 79) (.call 13 [(.t 74), (.t 78)]) 2097151
  .nil))))))))))
  (.op (some 80) (.pick (.t 69) (.t 79) (.c (.bool false))) 4194303
  (.op (some 81) (.move (.t 80)) 8388607
  (.grd 81 true
  (.op (some 82) (.move (.t 4)) 16777215
  (.op (some 83) (.load (some 2) (.t 14)) 16777215
  (.op (some 84) (.call 27 [(.t 82), (.t 83)]) 67108863
  (.op (some 85) (.call 14 [(.t 84)]) 134217727
  (.op (some 86) (.move (.t 4)) 16777215
  (.op (some 87) (.load (some 2) (.t 8)) 16777215
  (.op (some 88) (.call 28 [(.t 86), (.t 87)]) 1073741823
  (.op (some 89) (.call 13 [(.t 85), (.t 88)]) 2147483647
  .nil))))))))
  (.op (some 90) (.pick (.t 81) (.t 89) (.c (.bool false))) 4294967295
  (.op (some 91) (.move (.t 90)) 8589934591
  (.grd 91 true
  (.op (some 92) (.move (.t 4)) 17179869183
  (.op (some 93) (.move (.t 2)) 17179869183
  (.op (some 94) (.call 29 [(.t 92), (.t 93)]) 68719476735
  (.op (some 95) (.move (.t 4)) 17179869183
  (.op (some 96) (.move (.t 2)) 17179869183
  (.op (some 97) (.call 30 [(.t 95), (.t 96)]) 549755813887
  (.op (some 98) (.bin .eql (.t 94) (.t 97)) 1099511627775
  .nil)))))))
  (.op (some 99) (.pick (.t 91) (.t 98) (.c (.bool false))) 2199023255551
  (.op (some 10) (.move (.t 99)) 4398046511103
  .nil))))))))))))))) true)
 .ret))))))))),
 [.tmp 10]⟩
theorem b6 : fnOf Go.Proofs.Try.prog (owOf []) 6 = some c6 := by kernel_rfl

/-- bywash/bywashlaw04.EnvSign -/
def c7 : RFn := ⟨(.seq (.region (Nodes.flat none (.op (some 5) (.box (.t 0)) 0
  (.op (some 6) (.box (.t 1)) 0
  (.op (some 10) (.move (.c (.bool false))) 0
  .nil)))) false)
 (.seq (.region (Nodes.flat none (.op (some 14) (.call 9 []) 0
  (.op (some 11) (.move (.t 14)) 0
  .nil))) false)
 (.seq (.seq (.region (Nodes.flat none (.op (some 15) (.fieldAddr 1 (.t 5)) 0
  (.op (some 16) (.load none (.t 15)) 0
  (.op (some 17) (.len false (.t 16)) 0
  (.op (some 18) (.bin .gtr (.t 17) (.c (.int .i64 100))) 0
  (.op (some 19) (.move (.t 18)) 0
  (.grd 19 false
  (.op (some 20) (.fieldAddr 1 (.t 6)) 0
  (.op (some 21) (.load none (.t 20)) 0
  (.op (some 22) (.len false (.t 21)) 0
  (.op (some 23) (.bin .gtr (.t 22) (.c (.int .i64 100))) 0
  .nil))))
  (.op (some 24) (.pick (.t 19) (.c (.bool true)) (.t 23)) 0
  .nil)))))))) false)
 (.cond (.t 24)
 (.seq (.region (Nodes.flat none (.op (some 25) (.move (.t 11)) 0
  (.op (some 10) (.move (.t 25)) 0
  .nil))) false)
 .ret)
 .skip))
 (.seq (.region (Nodes.flat none (.op (some 26) (.load (some 2) (.t 5)) 0
  (.op (some 27) (.call 18 [(.t 26)]) 0
  (.op (some 12) (.alloc (.agg [(.bool false), (.lit [])])) 0
  (.op none (.store 2 (.t 12) (.t 27)) 0
  .nil))))) false)
 (.seq (.region (Nodes.flat none (.op (some 28) (.load (some 2) (.t 6)) 0
  (.op (some 29) (.call 18 [(.t 28)]) 0
  (.op (some 13) (.alloc (.agg [(.bool false), (.lit [])])) 0
  (.op none (.store 2 (.t 13) (.t 29)) 0
  .nil))))) false)
 (.seq (.seq (.region (Nodes.flat none (.op (some 30) (.load (some 2) (.t 12)) 0
  (.op (some 31) (.move (.t 2)) 0
  (.op (some 32) (.call 31 [(.t 30), (.t 31)]) 3
  (.op (some 33) (.load (some 2) (.t 5)) 0
  (.op (some 34) (.move (.t 2)) 0
  (.op (some 35) (.call 32 [(.t 33), (.t 34)]) 31
  (.op (some 36) (.bin .neq (.t 32) (.t 35)) 63
  (.op (some 37) (.move (.t 36)) 127
  (.grd 37 false
  (.op (some 38) (.load (some 2) (.t 12)) 255
  (.op (some 39) (.load (some 2) (.t 13)) 255
  (.op (some 40) (.call 20 [(.t 38), (.t 39)]) 1023
  (.op (some 41) (.load (some 2) (.t 5)) 255
  (.op (some 42) (.load (some 2) (.t 6)) 255
  (.op (some 43) (.call 33 [(.t 41), (.t 42)]) 8191
  (.op (some 44) (.binb .neq (.t 40) (.t 43)) 16383
  .nil)))))))
  (.op (some 45) (.pick (.t 37) (.c (.bool true)) (.t 44)) 32767
  .nil))))))))))) true)
 (.cond (.t 45)
 (.seq (.region (Nodes.flat none (.op (some 10) (.move (.c (.bool false))) 0
  .nil)) false)
 .ret)
 .skip))
 (.seq (.region (Nodes.flat none (.op (some 46) (.move (.t 11)) 0
  (.op (some 47) (.move (.t 46)) 1
  (.grd 47 true
  (.op (some 48) (.load (some 2) (.t 12)) 3
  (.op (some 49) (.load (some 2) (.t 13)) 3
  (.op (some 50) (.call 19 [(.t 48), (.t 49)]) 15
  (.op (some 51) (.call 22 [(.t 50)]) 31
  (.op (some 52) (.load (some 2) (.t 5)) 3
  (.op (some 53) (.load (some 2) (.t 6)) 3
  (.op (some 54) (.call 34 [(.t 52), (.t 53)]) 255
  (.op (some 55) (.call 21 [(.t 51), (.t 54)]) 511
  .nil))))))))
  (.op (some 56) (.pick (.t 47) (.t 55) (.c (.bool false))) 1023
  (.op (some 57) (.move (.t 56)) 2047
  (.grd 57 true
  (.op (some 58) (.load (some 2) (.t 12)) 4095
  (.op (some 59) (.move (.t 2)) 4095
  (.op (some 60) (.move (.t 3)) 4095
  (.op (some 61) (.call 35 [(.t 58), (.t 59), (.t 60)]) 32767
  (.op (some 62) (.call 22 [(.t 61)]) 65535
  (.op (some 63) (.load (some 2) (.t 5)) 4095
  (.op (some 64) (.move (.t 2)) 4095
  (.op (some 65) (.move (.t 3)) 4095
  (.op (some 66) (.call 36 [(.t 63), (.t 64), (.t 65)]) 1048575
  (.op (some 67) (.call 21 [(.t 62), (.t 66)]) 2097151
  .nil))))))))))
  (.op (some 68) (.pick (.t 57) (.t 67) (.c (.bool false))) 4194303
  (.op (some 69) (.move (.t 68)) 8388607
  (.grd 69 true
  (.op (some 70) (.move (.t 4)) 16777215
  (.op (some 71) (.move (.t 3)) 16777215
  (.op (some 72) (.call 37 [(.t 70), (.t 71)]) 67108863
  (.op (some 73) (.call 22 [(.t 72)]) 134217727
  (.op (some 74) (.move (.t 4)) 16777215
  (.op (some 75) (.move (.t 3)) 16777215
  (.op (some 76) (.call 38 [(.t 74), (.t 75)]) 1073741823
  (.op (some 77) (.call 21 [(.t 73), (.t 76)]) 2147483647
  .nil))))))))
  (.op (some 78) (.pick (.t 69) (.t 77) (.c (.bool false))) 4294967295
  (.op (some 10) (.move (.t 78)) 8589934591
  .nil)))))))))))) true)
 .ret))))))),
 [.tmp 10]⟩
theorem b7 : fnOf Go.Proofs.Try.prog (owOf []) 7 = some c7 := by kernel_rfl

/-- bywash/bywashlaw04.EnvSetSign -/
def c8 : RFn := ⟨(.seq (.region (Nodes.flat none (.op (some 4) (.box (.t 0)) 0
  (.op (some 8) (.move (.c (.bool false))) 0
  .nil))) false)
 (.seq (.region (Nodes.flat none (.op (some 14) (.call 9 []) 0
  (.op (some 9) (.move (.t 14)) 0
  .nil))) false)
 (.seq (.seq (.region (Nodes.flat none (.op (some 15) (.fieldAddr 1 (.t 4)) 0
  (.op (some 16) (.load none (.t 15)) 0
  (.op (some 17) (.len false (.t 16)) 0
  (.op (some 18) (.bin .gtr (.t 17) (.c (.int .i64 100))) 0
  .nil))))) false)
 (.cond (.t 18)
 (.seq (.region (Nodes.flat none (.op (some 19) (.move (.t 9)) 0
  (.op (some 8) (.move (.t 19)) 0
  .nil))) false)
 .ret)
 .skip))
 (.seq (.region (Nodes.flat none (.op (some 20) (.load (some 2) (.t 4)) 0
  (.op (some 21) (.call 18 [(.t 20)]) 0
  (.op (some 10) (.alloc (.agg [(.bool false), (.lit [])])) 0
  (.op none (.store 2 (.t 10) (.t 21)) 0
  .nil))))) false)
 (.seq (.region (Nodes.flat none (.op (some 22) (.load (some 2) (.t 10)) 0
  (.op (some 23) (.move (.t 1)) 0
  (.op (some 24) (.move (.t 3)) 0
  (.op (some 25) (.call 35 [(.t 22), (.t 23), (.t 24)]) 0
  (.op (some 11) (.alloc (.agg [(.bool false), (.lit [])])) 0
  (.op none (.store 2 (.t 11) (.t 25)) 0
  .nil))))))) false)
 (.seq (.region (Nodes.flat none (.op (some 26) (.load (some 2) (.t 10)) 0
  (.op (some 27) (.load (some 2) (.t 11)) 0
  (.op (some 28) (.call 19 [(.t 26), (.t 27)]) 0
  (.op (some 12) (.alloc (.agg [(.bool false), (.lit [])])) 0
  (.op none (.store 2 (.t 12) (.t 28)) 0
  .nil)))))) false)
 (.seq (.region (Nodes.flat none (.op (some 29) (.fieldAddr 0 (.t 4)) 0
  (.op (some 30) (.load none (.t 29)) 0
  (.op (some 31) (.move (.t 30)) 0
  (.grd 31 true
  (.op (some 32) (.move (.t 1)) 0
  (.op (some 33) (.bin .geq (.t 32) (.c (.int .i64 0))) 0
  .nil))
  (.op (some 34) (.pick (.t 31) (.t 33) (.c (.bool false))) 0
  (.op (some 35) (.move (.t 34)) 0
  (.grd 35 true
  (.op (some 36) (.move (.t 1)) 0
  (.op (some 37) (.fieldAddr 1 (.t 4)) 0
  (.op (some 38) (.load none (.t 37)) 0
  (.op (some 39) (.len false (.t 38)) 0
  (.op (some 40) (.bin .lss (.t 36) (.t 39)) 0
  .nil)))))
  (.op (some 41) (.pick (.t 35) (.t 40) (.c (.bool false))) 0
  (.op (some 13) (.move (.t 41)) 0
  .nil)))))))))) false)
 (.seq (.seq (.region (Nodes.flat none (.op (some 42) (.move (.t 13)) 0
  (.op (some 43) (.move (.t 42)) 1
  (.grd 43 true
  (.op (some 44) (.load (some 2) (.t 11)) 3
  (.op (some 45) (.move (.t 1)) 3
  (.op (some 46) (.call 31 [(.t 44), (.t 45)]) 15
  (.op (some 47) (.move (.t 3)) 3
  (.op (some 48) (.call 39 [(.t 47), (.c (.int .i64 0))]) 63
  (.op (some 49) (.bin .neq (.t 46) (.t 48)) 127
  .nil))))))
  (.op (some 50) (.pick (.t 43) (.t 49) (.c (.bool false))) 255
  (.op (some 51) (.move (.t 50)) 511
  (.grd 51 false
  (.op (some 52) (.move (.t 2)) 1023
  (.op (some 53) (.move (.t 1)) 1023
  (.op (some 54) (.bin .neq (.t 52) (.t 53)) 4095
  (.op (some 55) (.move (.t 54)) 8191
  (.grd 55 false
  (.op (some 56) (.move (.t 13)) 16383
  (.op (some 57) (.un .not (.t 56)) 32767
  .nil))
  (.op (some 58) (.pick (.t 55) (.c (.bool true)) (.t 57)) 65535
  (.op (some 59) (.move (.t 58)) 131071
  (.grd 59 true
  (.op (some 60) (.load (some 2) (.t 11)) 262143
  (.op (some 61) (.move (.t 2)) 262143
  (.op (some 62) (.call 31 [(.t 60), (.t 61)]) 1048575
  (.op (some 63) (.load (some 2) (.t 10)) 262143
  (.op (some 64) (.move (.t 2)) 262143
  (.op (some 65) (.call 31 [(.t 63), (.t 64)]) 8388607
  (.op (some 66) (.bin .neq (.t 62) (.t 65)) 16777215
  .nil)))))))
  (.op (some 67) (.pick (.t 59) (.t 66) (.c (.bool false))) 33554431
  .nil)))))))))
  (.op (some 68) (.pick (.t 51) (.c (.bool true)) (.t 67)) 67108863
  .nil)))))))) true)
 (.cond (.t 68)
 (.seq (.region (Nodes.flat none (.op (some 8) (.move (.c (.bool false))) 0
  .nil)) false)
 .ret)
 .skip))
 (.seq (.region (Nodes.flat none (.op (some 69) (.move (.t 9)) 0
  (.op (some 70) (.move (.t 69)) 1
  (.grd 70 true
  (.op (some 71) (.fieldAddr 0 (.t 11)) 3
  (.op (some 72) (.load none (.t 71)) 7
  (.op (some 73) (.fieldAddr 0 (.t 4)) 3
  (.op (some 74) (.load none (.t 73)) 19
  (.op (some 75) (.binb .eql (.t 72) (.t 74)) 63
  .nil)))))
  (.op (some 76) (.pick (.t 70) (.t 75) (.c (.bool false))) 127
  (.op (some 77) (.move (.t 76)) 255
  (.grd 77 true
  (.op (some 78) (.load (some 2) (.t 12)) 511
  (.op (some 79) (.move (.t 1)) 511
  (.op (some 80) (.call 31 [(.t 78), (.t 79)]) 2047
  (.op (some 81) (.load (some 2) (.t 10)) 511
  (.op (some 82) (.move (.t 1)) 511
  (.op (some 83) (.call 31 [(.t 81), (.t 82)]) 16383
  (.op (some 84) (.load (some 2) (.t 11)) 511
  (.op (some 85) (.move (.t 1)) 511
  (.op (some 86) (.call 31 [(.t 84), (.t 85)]) 131071
  (.op (some 87) (.call 39 [(.t 83), (.t 86)]) 262143
  (.op (some 88) (.bin .eql (.t 80) (.t 87)) 524287
  .nil)))))))))))
  (.op (some 89) (.pick (.t 77) (.t 88) (.c (.bool false))) 1048575
  (.op (some 90) (.move (.t 89)) 2097151
  (.grd 90 true
  (.op (some 91) (.move (.t 2)) 4194303
  (.op (some 92) (.move (.t 1)) 4194303
  (.op (some 93) (.bin .eql (.t 91) (.t 92)) 16777215
  (.op (some 94) (.move (.t 93)) 33554431
  (.grd 94 false
  (.op (some 95) (.load (some 2) (.t 12)) 67108863
  (.op (some 96) (.move (.t 2)) 67108863
  (.op (some 97) (.call 31 [(.t 95), (.t 96)]) 268435455
  (.op (some 98) (.load (some 2) (.t 10)) 67108863
  (.op (some 99) (.move (.t 2)) 67108863
  (.op (some 100) (.call 31 [(.t 98), (.t 99)]) 2147483647
  (.op (some 101) (.bin .eql (.t 97) (.t 100)) 4294967295
  .nil)))))))
  (.op (some 102) (.pick (.t 94) (.c (.bool true)) (.t 101)) 8589934591
  .nil))))))
  (.op (some 103) (.pick (.t 90) (.t 102) (.c (.bool false))) 17179869183
  (.op (some 104) (.move (.t 103)) 34359738367
  (.grd 104 true
  (.op (some 105) (.load (some 2) (.t 10)) 68719476735
  (.op (some 106) (.load (some 2) (.t 12)) 68719476735
  (.op (some 107) (.call 20 [(.t 105), (.t 106)]) 274877906943
  .nil)))
  (.op (some 108) (.pick (.t 104) (.t 107) (.c (.bool false))) 549755813887
  (.op (some 109) (.move (.t 108)) 1099511627775
  (.grd 109 true
  (.op (some 110) (.load (some 2) (.t 11)) 2199023255551
  (.op (some 111) (.load (some 2) (.t 12)) 2199023255551
  (.op (some 112) (.call 20 [(.t 110), (.t 111)]) 8796093022207
  .nil)))
  (.op (some 113) (.pick (.t 109) (.t 112) (.c (.bool false))) 17592186044415
  (.op (some 8) (.move (.t 113)) 35184372088831
  .nil)))))))))))))))))) true)
 .ret))))))))),
 [.tmp 8]⟩
theorem b8 : fnOf Go.Proofs.Try.prog (owOf []) 8 = some c8 := by kernel_rfl

/-- bywash/bywashlaw04.awake -/
def c9 : RFn := ⟨(.seq (.region (Nodes.flat none (.op (some 0) (.move (.c (.bool false))) 0
  .nil)) false)
 (.seq (.region (Nodes.flat none (.op (some 4) (.call 40 [(.c (.int .i64 1))]) 0
  (.op (some 5) (.call 27 [(.c (.int .i64 2)), (.t 4)]) 0
  (.op (some 1) (.alloc (.agg [(.bool false), (.lit [])])) 0
  (.op none (.store 2 (.t 1) (.t 5)) 0
  .nil))))) false)
 (.seq (.region (Nodes.flat none (.op (some 6) (.load (some 2) (.t 1)) 0
  (.op (some 7) (.call 40 [(.c (.int .i64 2))]) 0
  (.op (some 8) (.call 15 [(.t 6), (.c (.int .i64 0)), (.t 7)]) 3
  (.op (some 2) (.alloc (.agg [(.bool false), (.lit [])])) 0
  (.op none (.store 2 (.t 2) (.t 8)) 15
  .nil)))))) true)
 (.seq (.region (Nodes.flat none (.op (some 9) (.load (some 2) (.t 1)) 0
  (.op (some 10) (.load (some 2) (.t 2)) 0
  (.op (some 11) (.call 11 [(.t 9), (.t 10)]) 0
  (.op (some 3) (.alloc (.agg [(.bool false), (.lit [])])) 0
  (.op none (.store 2 (.t 3) (.t 11)) 0
  .nil)))))) false)
 (.seq (.region (Nodes.flat none (.op (some 12) (.fieldAddr 0 (.t 3)) 0
  (.op (some 13) (.load none (.t 12)) 1
  (.op (some 14) (.move (.t 13)) 3
  (.grd 14 true
  (.op (some 15) (.fieldAddr 1 (.t 3)) 7
  (.op (some 16) (.load none (.t 15)) 15
  (.op (some 17) (.len false (.t 16)) 31
  (.op (some 18) (.bin .eql (.t 17) (.c (.int .i64 2))) 63
  .nil))))
  (.op (some 19) (.pick (.t 14) (.t 18) (.c (.bool false))) 127
  (.op (some 20) (.move (.t 19)) 255
  (.grd 20 true
  (.op (some 21) (.fieldAddr 1 (.t 3)) 511
  (.op (some 22) (.load none (.t 21)) 1023
  (.op (some 23) (.idxAddr 2 (.t 22) (.c (.int .i64 0))) 2047
  (.op (some 24) (.fieldAddr 0 (.t 23)) 4095
  (.op (some 25) (.load none (.t 24)) 8191
  (.op (some 26) (.bin .eql (.t 25) (.c (.int .i64 2))) 16383
  .nil))))))
  (.op (some 27) (.pick (.t 20) (.t 26) (.c (.bool false))) 32767
  (.op (some 28) (.move (.t 27)) 65535
  (.grd 28 true
  (.op (some 29) (.fieldAddr 1 (.t 3)) 131071
  (.op (some 30) (.load none (.t 29)) 262143
  (.op (some 31) (.idxAddr 2 (.t 30) (.c (.int .i64 1))) 524287
  (.op (some 32) (.load (some 2) (.t 31)) 1048575
  (.op (some 33) (.call 40 [(.c (.int .i64 1))]) 131071
  (.op (some 34) (.eqs false [(0, 1), (1, 1)] (.t 32) (.t 33)) 4194303
  .nil))))))
  (.op (some 35) (.pick (.t 28) (.t 34) (.c (.bool false))) 8388607
  (.op (some 36) (.move (.t 35)) 16777215
  (.grd 36 true
  (.op (some 37) (.load (some 2) (.t 1)) 33554431
  (.op (some 38) (.load (some 2) (.t 3)) 33554431
  (.op (some 39) (.call 12 [(.t 37), (.t 38)]) 134217727
  .nil)))
  (.op (some 40) (.pick (.t 36) (.t 39) (.c (.bool false))) 268435455
  (.op (some 41) (.move (.t 40)) 536870911
  (.grd 41 true
  (.op (some 42) (.call 37 [(.c (.int .i64 1)), (.c (.int .i64 3))]) 1073741823
  (.op (some 43) (.call 31 [(.t 42), (.c (.int .i64 0))]) 2147483647
  (.op (some 44) (.bin .eql (.t 43) (.c (.int .i64 3))) 4294967295
  .nil)))
  (.op (some 45) (.pick (.t 41) (.t 44) (.c (.bool false))) 8589934591
  (.op (some 0) (.move (.t 45)) 17179869183
  .nil))))))))))))))))))) true)
 .ret))))),
 [.tmp 0]⟩
theorem b9 : fnOf Go.Proofs.Try.prog (owOf []) 9 = some c9 := by kernel_rfl

end Go.Vm
