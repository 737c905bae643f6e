/- Code. -/
import Derived.Test.YtjegabeechopdaaVnC
import Derived.KernelRfl
import Derived.Test.YtjegabeechopdaaProg
set_option maxRecDepth 100000
set_option linter.unusedSimpArgs false
set_option linter.unusedVariables false
namespace Go.Vm
open Go

/-- bywash/bywashlaw03.SignTells -/
def c10 : RFn := ⟨(.seq (.region (Nodes.flat none (.op (some 4) (.move (.c (.bool false))) 0
  .nil)) false)
 (.seq (.region (Nodes.flat none (.op (some 10) (.call 43 []) 0
  (.op (some 5) (.move (.t 10)) 0
  .nil))) false)
 (.seq (.region (Nodes.flat none (.op (some 11) (.move (.t 0)) 0
  (.op (some 12) (.bin .rem (.t 11) (.c (.int .i64 1000000007))) 0
  (.op (some 13) (.move (.t 1)) 0
  (.op (some 14) (.bin .rem (.t 13) (.c (.int .i64 3))) 0
  (.op (some 15) (.bin .sub (.t 12) (.t 14)) 0
  (.op (some 6) (.move (.t 15)) 0
  .nil))))))) false)
 (.seq (.region (Nodes.flat none (.op (some 16) (.move (.t 1)) 0
  (.op (some 17) (.bin .rem (.t 16) (.c (.int .i64 1000000007))) 0
  (.op (some 7) (.move (.t 17)) 0
  .nil)))) false)
 (.seq (.region (Nodes.flat none (.op (some 18) (.move (.t 6)) 0
  (.op (some 19) (.call 45 [(.t 18)]) 0
  (.op (some 8) (.move (.t 19)) 0
  .nil)))) false)
 (.seq (.region (Nodes.flat none (.op (some 20) (.move (.t 7)) 0
  (.op (some 21) (.call 45 [(.t 20)]) 0
  (.op (some 9) (.move (.t 21)) 0
  .nil)))) false)
 (.seq (.region (Nodes.flat none (.op (some 22) (.move (.t 5)) 0
  (.op (some 23) (.move (.t 22)) 0
  (.grd 23 true
  (.op (some 24) (.move (.t 6)) 0
  (.op (some 25) (.move (.t 7)) 0
  (.op (some 26) (.bin .add (.t 24) (.t 25)) 0
  (.op (some 27) (.call 45 [(.t 26)]) 0
  (.op (some 28) (.move (.t 8)) 0
  (.op (some 29) (.move (.t 9)) 0
  (.op (some 30) (.call 47 [(.t 28), (.t 29)]) 0
  (.op (some 31) (.call 44 [(.t 27), (.t 30)]) 0
  .nil))))))))
  (.op (some 32) (.pick (.t 23) (.t 31) (.c (.bool false))) 0
  (.op (some 33) (.move (.t 32)) 0
  (.grd 33 true
  (.op (some 34) (.move (.t 6)) 0
  (.op (some 35) (.move (.t 7)) 0
  (.op (some 36) (.bin .sub (.t 34) (.t 35)) 0
  (.op (some 37) (.call 45 [(.t 36)]) 0
  (.op (some 38) (.move (.t 8)) 0
  (.op (some 39) (.move (.t 9)) 0
  (.op (some 40) (.call 49 [(.t 38), (.t 39)]) 0
  (.op (some 41) (.call 44 [(.t 37), (.t 40)]) 0
  .nil))))))))
  (.op (some 42) (.pick (.t 33) (.t 41) (.c (.bool false))) 0
  (.op (some 43) (.move (.t 42)) 0
  (.grd 43 true
  (.op (some 44) (.move (.t 6)) 0
  (.op (some 45) (.move (.t 7)) 0
  (.op (some 46) (.bin .mul (.t 44) (.t 45)) 0
  (.op (some 47) (.call 45 [(.t 46)]) 0
  (.op (some 48) (.move (.t 8)) 0
  (.op (some 49) (.move (.t 9)) 0
  (.op (some 50) (.call 48 [(.t 48), (.t 49)]) 0
  (.op (some 51) (.call 44 [(.t 47), (.t 50)]) 0
  .nil))))))))
  (.op (some 52) (.pick (.t 43) (.t 51) (.c (.bool false))) 0
  (.op (some 53) (.move (.t 52)) 0
  (.grd 53 true
  (.op (some 54) (.move (.t 6)) 0
  (.op (some 55) (.un .neg (.t 54)) 0
  (.op (some 56) (.call 45 [(.t 55)]) 0
  (.op (some 57) (.move (.t 8)) 0
  (.op (some 58) (.call 50 [(.t 57)]) 0
  (.op (some 59) (.bin .eql (.t 56) (.t 58)) 0
  .nil))))))
  (.op (some 60) (.pick (.t 53) (.t 59) (.c (.bool false))) 0
  (.op (some 61) (.move (.t 60)) 0
  (.grd 61 true
  (.op (some 62) (.move (.t 6)) 0
  (.op (some 63) (.call 26 [(.t 62)]) 0
  (.op (some 64) (.call 51 [(.t 63)]) 0
  (.op (some 65) (.move (.t 8)) 0
  (.op (some 66) (.bin .eql (.t 64) (.t 65)) 0
  .nil)))))
  (.op (some 67) (.pick (.t 61) (.t 66) (.c (.bool false))) 0
  (.op (some 4) (.move (.t 67)) 0
  .nil)))))))))))))))))) false)
 .ret))))))),
 [.tmp 4]⟩
theorem b10 : fnOf Go.Proofs.Try.prog (owOf []) 10 = some c10 := by kernel_rfl

/-- bywash/bywashlaw03.SignList -/
def c11 : RFn := ⟨(.seq (.region (Nodes.flat none (.op (some 2) (.move (.c (.bool false))) 0
  .nil)) false)
 (.seq (.region (Nodes.flat none (.op (some 7) (.call 43 []) 0
  (.op (some 3) (.move (.t 7)) 0
  .nil))) false)
 (.seq (.region (Nodes.flat none (.op (some 8) (.move (.t 0)) 0
  (.op (some 9) (.call 52 [(.t 8)]) 0
  (.op (some 4) (.move (.t 9)) 0
  .nil)))) false)
 (.seq (.region (Nodes.flat none (.op (some 5) (.move (.c (.int .i64 0))) 0
  .nil)) false)
 (.seq (.seq (.region (Nodes.flat none (.op (some 6) (.move (.c (.int .i64 0))) 0
  .nil)) false)
 (.block 0 (.loop (.seq (.seq (.region (Nodes.flat none (.op (some 10) (.move (.t 6)) 0
  (.op (some 11) (.move (.t 4)) 0
  (.op (some 12) (.len false (.t 11)) 0
  (.op (some 13) (.bin .lss (.t 10) (.t 12)) 0
  .nil))))) false)
 (.cond (.t 13)
 .skip
 (.exit 0)))
 (.seq (.block 1 (.seq (.seq (.region (Nodes.flat none (.op (some 16) (.move (.t 4)) 0
  (.op (some 17) (.move (.t 6)) 0
  (.op (some 18) (.idxAddr 1 (.t 16) (.t 17)) 3
  (.op (some 19) (.load none (.t 18)) 7
  (.op (some 20) (.bin .lss (.t 19) (.c (.int .i64 (-1)))) 15
  (.op (some 21) (.move (.t 20)) 31
  (.grd 21 false
  (.op (some 22) (.move (.t 4)) 63
  (.op (some 23) (.move (.t 6)) 63
  (.op (some 24) (.idxAddr 1 (.t 22) (.t 23)) 255
  (.op (some 25) (.load none (.t 24)) 511
  (.op (some 26) (.bin .gtr (.t 25) (.c (.int .i64 1))) 1023
  .nil)))))
  (.op (some 27) (.pick (.t 21) (.c (.bool true)) (.t 26)) 2047
  (.op (some 28) (.move (.t 27)) 4095
  (.grd 28 false
  (.op (some 29) (.move (.t 6)) 8191
  (.op (some 30) (.bin .gtr (.t 29) (.c (.int .i64 0))) 16383
  (.op (some 31) (.move (.t 30)) 32767
  (.grd 31 true
  (.op (some 32) (.move (.t 4)) 65535
  (.op (some 33) (.move (.t 6)) 65535
  (.op (some 34) (.idxAddr 1 (.t 32) (.t 33)) 262143
  (.op (some 35) (.load none (.t 34)) 524287
  (.op (some 36) (.move (.t 4)) 65535
  (.op (some 37) (.move (.t 6)) 65535
  (.op (some 38) (.bin .sub (.t 37) (.c (.int .i64 1))) 2162687
  (.op (some 39) (.idxAddr 1 (.t 36) (.t 38)) 7405567
  (.op (some 40) (.load none (.t 39)) 15794175
  (.op (some 41) (.bin .leq (.t 35) (.t 40)) 33554431
  .nil))))))))))
  (.op (some 42) (.pick (.t 31) (.t 41) (.c (.bool false))) 67108863
  .nil)))))
  (.op (some 43) (.pick (.t 28) (.c (.bool true)) (.t 42)) 134217727
  .nil)))))))))))) true)
 (.cond (.t 43)
 (.seq (.region (Nodes.flat none (.op (some 2) (.move (.c (.bool false))) 0
  .nil)) false)
 .ret)
 .skip))
 (.region (Nodes.flat none (.op (some 44) (.move (.t 5)) 0
  (.op (some 45) (.move (.t 4)) 0
  (.op (some 46) (.move (.t 6)) 0
  (.op (some 47) (.idxAddr 1 (.t 45) (.t 46)) 0
  (.op (some 48) (.load none (.t 47)) 0
  (.op (some 49) (.call 45 [(.t 48)]) 0
  (.op (some 50) (.call 46 [(.t 44), (.t 49)]) 0
  (.op (some 5) (.move (.t 50)) 0
  .nil))))))))) false)))
 (.region (Nodes.flat none (.op (some 14) (.move (.t 6)) 0
  (.op (some 15) (.bin .add (.t 14) (.c (.int .i64 1))) 0
  (.op (some 6) (.move (.t 15)) 0
  .nil)))) false))))))
 (.seq (.region (Nodes.flat none (.op (some 51) (.move (.t 3)) 0
  (.op (some 52) (.move (.t 51)) 0
  (.grd 52 true
  (.op (some 53) (.move (.t 5)) 0
  (.op (some 54) (.move (.t 0)) 0
  (.op (some 55) (.call 46 [(.t 54), (.c (.int .i64 0))]) 0
  (.op (some 56) (.bin .eql (.t 53) (.t 55)) 0
  .nil))))
  (.op (some 57) (.pick (.t 52) (.t 56) (.c (.bool false))) 0
  (.op (some 58) (.move (.t 57)) 0
  (.grd 58 true
  (.op (some 59) (.move (.t 0)) 0
  (.op (some 60) (.call 50 [(.t 59)]) 0
  (.op (some 61) (.call 50 [(.t 60)]) 0
  (.op (some 62) (.move (.t 5)) 0
  (.op (some 63) (.bin .eql (.t 61) (.t 62)) 0
  .nil)))))
  (.op (some 64) (.pick (.t 58) (.t 63) (.c (.bool false))) 0
  (.op (some 65) (.move (.t 64)) 0
  (.grd 65 true
  (.op (some 66) (.move (.t 0)) 0
  (.op (some 67) (.call 47 [(.c (.int .i64 0)), (.t 66)]) 0
  (.op (some 68) (.bin .eql (.t 67) (.c (.int .i64 0))) 0
  .nil)))
  (.op (some 69) (.pick (.t 65) (.t 68) (.c (.bool false))) 0
  (.op (some 70) (.move (.t 69)) 0
  (.grd 70 true
  (.op (some 71) (.move (.t 0)) 0
  (.op (some 72) (.call 48 [(.t 71), (.c (.int .i64 0))]) 0
  (.op (some 73) (.bin .eql (.t 72) (.c (.int .i64 0))) 0
  .nil)))
  (.op (some 74) (.pick (.t 70) (.t 73) (.c (.bool false))) 0
  (.op (some 75) (.move (.t 74)) 0
  (.grd 75 true
  (.op (some 76) (.move (.t 0)) 0
  (.op (some 77) (.call 47 [(.t 76), (.c (.int .i64 2))]) 0
  (.op (some 78) (.move (.t 5)) 0
  (.op (some 79) (.bin .eql (.t 77) (.t 78)) 0
  .nil))))
  (.op (some 80) (.pick (.t 75) (.t 79) (.c (.bool false))) 0
  (.op (some 81) (.move (.t 80)) 0
  (.grd 81 true
  (.op (some 82) (.move (.t 4)) 0
  (.op (some 83) (.len false (.t 82)) 0
  (.op (some 84) (.move (.t 0)) 0
  (.op (some 85) (.call 53 [(.t 84)]) 0
  (.op (some 86) (.bin .eql (.t 83) (.t 85)) 0
  .nil)))))
  (.op (some 87) (.pick (.t 81) (.t 86) (.c (.bool false))) 0
  (.op (some 2) (.move (.t 87)) 0
  .nil))))))))))))))))))))) false)
 .ret)))))),
 [.tmp 2]⟩
theorem b11 : fnOf Go.Proofs.Try.prog (owOf []) 11 = some c11 := by kernel_rfl

/-- bywash/bywashlaw03.SignRises -/
def c12 : RFn := ⟨(.seq (.region (Nodes.flat none (.op (some 6) (.move (.c (.bool false))) 0
  .nil)) false)
 (.seq (.region (Nodes.flat none (.op (some 9) (.call 43 []) 0
  (.op (some 7) (.move (.t 9)) 0
  .nil))) false)
 (.seq (.region (Nodes.flat none (.op (some 10) (.move (.t 0)) 0
  (.op (some 11) (.move (.t 1)) 0
  (.op (some 12) (.call 46 [(.t 10), (.t 11)]) 0
  (.op (some 8) (.move (.t 12)) 0
  .nil))))) false)
 (.seq (.region (Nodes.flat none (.op (some 13) (.move (.t 7)) 0
  (.op (some 14) (.move (.t 13)) 0
  (.grd 14 true
  (.op (some 15) (.move (.t 0)) 0
  (.op (some 16) (.move (.t 8)) 0
  (.op (some 17) (.call 44 [(.t 15), (.t 16)]) 0
  .nil)))
  (.op (some 18) (.pick (.t 14) (.t 17) (.c (.bool false))) 0
  (.op (some 19) (.move (.t 18)) 0
  (.grd 19 true
  (.op (some 20) (.move (.t 1)) 0
  (.op (some 21) (.move (.t 8)) 0
  (.op (some 22) (.call 44 [(.t 20), (.t 21)]) 0
  .nil)))
  (.op (some 23) (.pick (.t 19) (.t 22) (.c (.bool false))) 0
  (.op (some 24) (.move (.t 23)) 0
  (.grd 24 true
  (.op (some 25) (.move (.t 8)) 0
  (.op (some 26) (.move (.t 2)) 0
  (.op (some 27) (.call 47 [(.t 25), (.t 26)]) 0
  (.op (some 28) (.move (.t 0)) 0
  (.op (some 29) (.move (.t 2)) 0
  (.op (some 30) (.call 47 [(.t 28), (.t 29)]) 0
  (.op (some 31) (.move (.t 1)) 0
  (.op (some 32) (.move (.t 2)) 0
  (.op (some 33) (.call 47 [(.t 31), (.t 32)]) 0
  (.op (some 34) (.call 46 [(.t 30), (.t 33)]) 0
  (.op (some 35) (.bin .eql (.t 27) (.t 34)) 0
  .nil)))))))))))
  (.op (some 36) (.pick (.t 24) (.t 35) (.c (.bool false))) 0
  (.op (some 37) (.move (.t 36)) 0
  (.grd 37 true
  (.op (some 38) (.move (.t 8)) 0
  (.op (some 39) (.move (.t 2)) 0
  (.op (some 40) (.call 48 [(.t 38), (.t 39)]) 0
  (.op (some 41) (.move (.t 0)) 0
  (.op (some 42) (.move (.t 2)) 0
  (.op (some 43) (.call 48 [(.t 41), (.t 42)]) 0
  (.op (some 44) (.move (.t 1)) 0
  (.op (some 45) (.move (.t 2)) 0
  (.op (some 46) (.call 48 [(.t 44), (.t 45)]) 0
  (.op (some 47) (.call 46 [(.t 43), (.t 46)]) 0
  (.op (some 48) (.bin .eql (.t 40) (.t 47)) 0
  .nil)))))))))))
  (.op (some 49) (.pick (.t 37) (.t 48) (.c (.bool false))) 0
  (.op (some 50) (.move (.t 49)) 0
  (.grd 50 true
  (.op (some 51) (.move (.t 8)) 0
  (.op (some 52) (.move (.t 2)) 0
  (.op (some 53) (.call 49 [(.t 51), (.t 52)]) 0
  (.op (some 54) (.move (.t 0)) 0
  (.op (some 55) (.move (.t 2)) 0
  (.op (some 56) (.call 49 [(.t 54), (.t 55)]) 0
  (.op (some 57) (.move (.t 1)) 0
  (.op (some 58) (.move (.t 2)) 0
  (.op (some 59) (.call 49 [(.t 57), (.t 58)]) 0
  (.op (some 60) (.call 46 [(.t 56), (.t 59)]) 0
  (.op (some 61) (.bin .eql (.t 53) (.t 60)) 0
  .nil)))))))))))
  (.op (some 62) (.pick (.t 50) (.t 61) (.c (.bool false))) 0
  (.op (some 63) (.move (.t 62)) 0
  (.grd 63 true
  (.op (some 64) (.move (.t 8)) 0
  (.op (some 65) (.call 50 [(.t 64)]) 0
  (.op (some 66) (.move (.t 0)) 0
  (.op (some 67) (.call 50 [(.t 66)]) 0
  (.op (some 68) (.move (.t 1)) 0
  (.op (some 69) (.call 50 [(.t 68)]) 0
  (.op (some 70) (.call 46 [(.t 67), (.t 69)]) 0
  (.op (some 71) (.bin .eql (.t 65) (.t 70)) 0
  .nil))))))))
  (.op (some 72) (.pick (.t 63) (.t 71) (.c (.bool false))) 0
  (.op (some 73) (.move (.t 72)) 0
  (.grd 73 true
  (.op (some 74) (.move (.t 0)) 0
  (.op (some 75) (.move (.t 2)) 0
  (.op (some 76) (.call 47 [(.t 74), (.t 75)]) 0
  (.op (some 77) (.move (.t 2)) 0
  (.op (some 78) (.move (.t 0)) 0
  (.op (some 79) (.call 47 [(.t 77), (.t 78)]) 0
  (.op (some 80) (.bin .eql (.t 76) (.t 79)) 0
  .nil)))))))
  (.op (some 81) (.pick (.t 73) (.t 80) (.c (.bool false))) 0
  (.op (some 82) (.move (.t 81)) 0
  (.grd 82 true
  (.op (some 83) (.move (.t 0)) 0
  (.op (some 84) (.move (.t 2)) 0
  (.op (some 85) (.call 48 [(.t 83), (.t 84)]) 0
  (.op (some 86) (.move (.t 2)) 0
  (.op (some 87) (.move (.t 0)) 0
  (.op (some 88) (.call 48 [(.t 86), (.t 87)]) 0
  (.op (some 89) (.bin .eql (.t 85) (.t 88)) 0
  .nil)))))))
  (.op (some 90) (.pick (.t 82) (.t 89) (.c (.bool false))) 0
  (.op (some 91) (.move (.t 90)) 0
  (.grd 91 true
  (.op (some 92) (.move (.t 8)) 0
  (.op (some 93) (.call 53 [(.t 92)]) 0
  (.op (some 94) (.bin .leq (.t 93) (.c (.int .i64 3))) 0
  .nil)))
  (.op (some 95) (.pick (.t 91) (.t 94) (.c (.bool false))) 0
  (.op (some 6) (.move (.t 95)) 0
  .nil)))))))))))))))))))))))))))))) false)
 .ret)))),
 [.tmp 6]⟩
theorem b12 : fnOf Go.Proofs.Try.prog (owOf []) 12 = some c12 := by kernel_rfl

/-- bywash/bywashlaw03.SignFlat -/
def c13 : RFn := ⟨(.seq (.region (Nodes.flat none (.op (some 2) (.box (.t 0)) 0
  (.op (some 3) (.box (.t 1)) 0
  (.op (some 4) (.move (.c (.bool false))) 0
  .nil)))) false)
 (.seq (.region (Nodes.flat none (.op (some 11) (.call 43 []) 0
  (.op (some 5) (.move (.t 11)) 0
  .nil))) false)
 (.seq (.region (Nodes.flat none (.op (some 12) (.fieldAddr 0 (.t 2)) 0
  (.op (some 13) (.load none (.t 12)) 0
  (.op (some 14) (.fieldAddr 1 (.t 2)) 0
  (.op (some 15) (.load none (.t 14)) 0
  (.op (some 16) (.build [(.int .i64 0), (.int .i64 0)] [(0, 1, (.t 13)), (1, 1, (.t 15))]) 0
  (.op (some 6) (.alloc (.agg [(.int .i64 0), (.int .i64 0)])) 0
  (.op none (.store 2 (.t 6) (.t 16)) 0
  .nil)))))))) false)
 (.seq (.region (Nodes.flat none (.op (some 17) (.fieldAddr 0 (.t 3)) 0
  (.op (some 18) (.load none (.t 17)) 0
  (.op (some 19) (.fieldAddr 1 (.t 3)) 0
  (.op (some 20) (.load none (.t 19)) 0
  (.op (some 21) (.build [(.int .i64 0), (.int .i64 0)] [(0, 1, (.t 18)), (1, 1, (.t 20))]) 0
  (.op (some 7) (.alloc (.agg [(.int .i64 0), (.int .i64 0)])) 0
  (.op none (.store 2 (.t 7) (.t 21)) 0
  .nil)))))))) false)
 (.seq (.region (Nodes.flat none (.op (some 22) (.load (some 2) (.t 6)) 0
  (.op (some 23) (.call 51 [(.t 22)]) 0
  (.op (some 8) (.move (.t 23)) 0
  .nil)))) false)
 (.seq (.region (Nodes.flat none (.op (some 24) (.load (some 2) (.t 7)) 0
  (.op (some 25) (.call 51 [(.t 24)]) 0
  (.op (some 9) (.move (.t 25)) 0
  .nil)))) false)
 (.seq (.region (Nodes.flat none (.op (some 26) (.fieldAddr 1 (.t 2)) 0
  (.op (some 27) (.load none (.t 26)) 0
  (.op (some 28) (.bin .gtr (.t 27) (.c (.int .i64 (-1048576)))) 0
  (.op (some 29) (.move (.t 28)) 0
  (.grd 29 true
  (.op (some 30) (.fieldAddr 1 (.t 2)) 0
  (.op (some 31) (.load none (.t 30)) 0
  (.op (some 32) (.bin .lss (.t 31) (.c (.int .i64 1048576))) 0
  .nil)))
  (.op (some 33) (.pick (.t 29) (.t 32) (.c (.bool false))) 0
  (.op (some 34) (.move (.t 33)) 0
  (.grd 34 true
  (.op (some 35) (.fieldAddr 1 (.t 3)) 0
  (.op (some 36) (.load none (.t 35)) 0
  (.op (some 37) (.bin .gtr (.t 36) (.c (.int .i64 (-1048576)))) 0
  .nil)))
  (.op (some 38) (.pick (.t 34) (.t 37) (.c (.bool false))) 0
  (.op (some 39) (.move (.t 38)) 0
  (.grd 39 true
  (.op (some 40) (.fieldAddr 1 (.t 3)) 0
  (.op (some 41) (.load none (.t 40)) 0
  (.op (some 42) (.bin .lss (.t 41) (.c (.int .i64 1048576))) 0
  .nil)))
  (.op (some 43) (.pick (.t 39) (.t 42) (.c (.bool false))) 0
  (.op (some 10) (.move (.t 43)) 0
  .nil)))))))))))))) false)
 (.seq (.seq (.region (Nodes.flat none (.op (some 44) (.load (some 2) (.t 6)) 0
  (.op (some 45) (.load (some 2) (.t 7)) 0
  (.op (some 46) (.call 23 [(.t 44), (.t 45)]) 3
  (.op (some 47) (.move (.t 46)) 7
  (.grd 47 true
  (.op (some 48) (.move (.t 8)) 15
  (.op (some 49) (.move (.t 9)) 15
  (.op (some 50) (.call 44 [(.t 48), (.t 49)]) 63
  (.op (some 51) (.un .not (.t 50)) 127
  .nil))))
  (.op (some 52) (.pick (.t 47) (.t 51) (.c (.bool false))) 255
  (.op (some 53) (.move (.t 52)) 511
  (.grd 53 false
  (.op (some 54) (.move (.t 8)) 1023
  (.op (some 55) (.move (.t 9)) 1023
  (.op (some 56) (.call 46 [(.t 54), (.t 55)]) 4095
  (.op (some 57) (.load (some 2) (.t 6)) 1023
  (.op (some 58) (.load (some 2) (.t 7)) 1023
  (.op (some 59) (.call 22 [(.t 57), (.t 58)]) 32767
  (.op (some 60) (.call 51 [(.t 59)]) 65535
  (.op (some 61) (.call 44 [(.t 56), (.t 60)]) 131071
  (.op (some 62) (.un .not (.t 61)) 262143
  .nil)))))))))
  (.op (some 63) (.pick (.t 53) (.c (.bool true)) (.t 62)) 524287
  .nil)))))))))) true)
 (.cond (.t 63)
 (.seq (.region (Nodes.flat none (.op (some 4) (.move (.c (.bool false))) 0
  .nil)) false)
 .ret)
 .skip))
 (.seq (.region (Nodes.flat none (.op (some 64) (.move (.t 5)) 0
  (.op (some 65) (.move (.t 64)) 0
  (.grd 65 true
  (.op (some 66) (.move (.t 10)) 0
  (.op (some 67) (.un .not (.t 66)) 0
  (.op (some 68) (.move (.t 67)) 0
  (.grd 68 false
  (.op (some 69) (.load (some 2) (.t 6)) 0
  (.op (some 70) (.load (some 2) (.t 7)) 0
  (.op (some 71) (.call 27 [(.t 69), (.t 70)]) 0
  (.op (some 72) (.call 51 [(.t 71)]) 0
  (.op (some 73) (.move (.t 8)) 0
  (.op (some 74) (.move (.t 9)) 0
  (.op (some 75) (.call 47 [(.t 73), (.t 74)]) 0
  (.op (some 76) (.call 44 [(.t 72), (.t 75)]) 0
  (.op (some 77) (.move (.t 76)) 0
  (.grd 77 true
  (.op (some 78) (.load (some 2) (.t 6)) 0
  (.op (some 79) (.load (some 2) (.t 7)) 0
  (.op (some 80) (.call 28 [(.t 78), (.t 79)]) 0
  (.op (some 81) (.call 51 [(.t 80)]) 0
  (.op (some 82) (.move (.t 8)) 0
  (.op (some 83) (.move (.t 9)) 0
  (.op (some 84) (.call 49 [(.t 82), (.t 83)]) 0
  (.op (some 85) (.call 44 [(.t 81), (.t 84)]) 0
  .nil))))))))
  (.op (some 86) (.pick (.t 77) (.t 85) (.c (.bool false))) 0
  .nil)))))))))))
  (.op (some 87) (.pick (.t 68) (.c (.bool true)) (.t 86)) 0
  .nil)))))
  (.op (some 88) (.pick (.t 65) (.t 87) (.c (.bool false))) 0
  (.op (some 4) (.move (.t 88)) 0
  .nil)))))) false)
 .ret))))))))),
 [.tmp 4]⟩
theorem b13 : fnOf Go.Proofs.Try.prog (owOf []) 13 = some c13 := by kernel_rfl

end Go.Vm
