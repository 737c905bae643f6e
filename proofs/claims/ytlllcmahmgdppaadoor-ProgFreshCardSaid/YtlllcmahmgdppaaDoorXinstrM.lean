/- Laid. -/
import Derived.Test.YtlllcmahmgdppaaDoorVmThree
import Derived.KernelRfl
import Derived.Test.YtlllcmahmgdppaaDoorProg
import Derived.Test.YtlllcmahmgdppaaDoorXinstrF
import Derived.Test.YtlllcmahmgdppaaDoorLAll
section
/- Code. -/
set_option maxRecDepth 100000
set_option linter.unusedSimpArgs false
set_option linter.unusedVariables false
namespace Go.Vm
open Go
def c49 : RFn := ⟨(.seq (.region (Nodes.flat none (.op (some 3) (.move (.t 0)) 0
  (.op (some 4) (.len false (.t 3)) 0
  (.op (some 2) (.move (.t 4)) 0
  .nil)))) false)
 (.region (Nodes.flat none (.op (some 5) (.move (.t 0)) 0
  (.op (some 6) (.move (.t 2)) 0
  (.op (some 7) (.move (.t 2)) 0
  (.op (some 8) (.conv .u64 (.t 7)) 0
  (.op (some 9) (.call 55 [(.t 8)]) 0
  (.op (some 10) (.call 54 [(.t 5), (.c (.int .i64 0)), (.t 6), (.t 9)]) 0
  .nil))))))) false)),
 []⟩
theorem b49 : fnOf Go.Proofs.Tryd.prog (owOf []) 49 = some c49 := by kernel_rfl
def c54 : RFn := ⟨(.seq (.region (Nodes.flat none (.op (some 8) (.move (.c (.bool true))) 0
  .nil)) false)
 (.seq (.region (Nodes.flat none (.op (some 9) (.move (.c (.bool true))) 0
  .nil)) false)
 (.block 0 (.loop (.block 1 (.seq (.region (Nodes.flat none (.op (some 19) (.move (.t 2)) 0
  (.op (some 20) (.move (.t 1)) 0
  (.op (some 21) (.bin .sub (.t 19) (.t 20)) 0
  (.op (some 10) (.move (.t 21)) 0
  .nil))))) false)
 (.seq (.seq (.region (Nodes.flat none (.op (some 22) (.move (.t 10)) 0
  (.op (some 23) (.bin .leq (.t 22) (.c (.int .i64 12))) 0
  .nil))) false)
 (.cond (.t 23)
 (.seq (.region (Nodes.flat none (.op (some 24) (.move (.t 0)) 0
  (.op (some 25) (.move (.t 1)) 0
  (.op (some 26) (.move (.t 2)) 0
  (.op (some 27) (.call 60 [(.t 24), (.t 25), (.t 26)]) 0
  .nil))))) false)
 .ret)
 .skip))
 (.seq (.seq (.region (Nodes.flat none (.op (some 28) (.move (.t 3)) 0
  (.op (some 29) (.bin .eql (.t 28) (.c (.int .i64 0))) 0
  .nil))) false)
 (.cond (.t 29)
 (.seq (.region (Nodes.flat none (.op (some 30) (.move (.t 0)) 0
  (.op (some 31) (.move (.t 1)) 0
  (.op (some 32) (.move (.t 2)) 0
  (.op (some 33) (.call 61 [(.t 30), (.t 31), (.t 32)]) 0
  .nil))))) false)
 .ret)
 .skip))
 (.seq (.seq (.region (Nodes.flat none (.op (some 34) (.move (.t 8)) 0
  (.op (some 35) (.un .not (.t 34)) 0
  .nil))) false)
 (.cond (.t 35)
 (.seq (.region (Nodes.flat none (.op (some 36) (.move (.t 0)) 0
  (.op (some 37) (.move (.t 1)) 0
  (.op (some 38) (.move (.t 2)) 0
  (.op (some 39) (.call 62 [(.t 36), (.t 37), (.t 38)]) 0
  .nil))))) false)
 (.region (Nodes.flat none (.op (some 40) (.move (.t 3)) 0
  (.op (some 41) (.bin .sub (.t 40) (.c (.int .i64 1))) 0
  (.op (some 3) (.move (.t 41)) 0
  .nil)))) false))
 .skip))
 (.seq (.region (Nodes.flat none (.op (some 43) (.move (.t 0)) 0
  (.op (some 44) (.move (.t 1)) 0
  (.op (some 45) (.move (.t 2)) 0
  (.op (some 46) (.call 63 [(.t 43), (.t 44), (.t 45)]) 0
  (.op (some 42) (.move (.t 46)) 0
  (.op (some 47) (.extract 0 (.t 42)) 0
  (.op (some 48) (.extract 1 (.t 42)) 0
  (.op (some 11) (.move (.t 47)) 0
  (.op (some 12) (.move (.t 48)) 0
  .nil)))))))))) false)
 (.seq (.seq (.region (Nodes.flat none (.op (some 49) (.move (.t 12)) 0
  (.op (some 50) (.bin .eql (.t 49) (.c (.int .i64 2))) 0
  .nil))) false)
 (.cond (.t 50)
 (.seq (.region (Nodes.flat none (.op (some 51) (.move (.t 0)) 0
  (.op (some 52) (.move (.t 1)) 0
  (.op (some 53) (.move (.t 2)) 0
  (.op (some 54) (.call 64 [(.t 51), (.t 52), (.t 53)]) 0
  .nil))))) false)
 (.seq (.region (Nodes.flat none (.op (some 55) (.move (.t 2)) 0
  (.op (some 56) (.bin .sub (.t 55) (.c (.int .i64 1))) 0
  (.op (some 57) (.move (.t 11)) 0
  (.op (some 58) (.move (.t 1)) 0
  (.op (some 59) (.bin .sub (.t 57) (.t 58)) 0
  (.op (some 60) (.bin .sub (.t 56) (.t 59)) 0
  (.op (some 11) (.move (.t 60)) 0
  .nil)))))))) false)
 (.region (Nodes.flat none (.op (some 12) (.move (.c (.int .i64 1))) 0
  .nil)) false)))
 .skip))
 (.seq (.seq (.region (Nodes.flat none (.op (some 61) (.move (.t 8)) 0
  (.op (some 62) (.move (.t 61)) 0
  (.grd 62 true
  (.op (some 63) (.move (.t 9)) 0
  .nil)
  (.op (some 64) (.pick (.t 62) (.t 63) (.c (.bool false))) 0
  (.op (some 65) (.move (.t 64)) 0
  (.grd 65 true
  (.op (some 66) (.move (.t 12)) 0
  (.op (some 67) (.bin .eql (.t 66) (.c (.int .i64 1))) 0
  .nil))
  (.op (some 68) (.pick (.t 65) (.t 67) (.c (.bool false))) 0
  .nil)))))))) false)
 (.cond (.t 68)
 (.seq (.region (Nodes.flat none (.op (some 69) (.move (.t 0)) 0
  (.op (some 70) (.move (.t 1)) 0
  (.op (some 71) (.move (.t 2)) 0
  (.op (some 72) (.call 65 [(.t 69), (.t 70), (.t 71)]) 0
  .nil))))) false)
 (.cond (.t 72)
 .ret
 .skip))
 .skip))
 (.seq (.seq (.region (Nodes.flat none (.op (some 73) (.move (.t 1)) 0
  (.op (some 74) (.bin .gtr (.t 73) (.c (.int .i64 0))) 1
  (.op (some 75) (.move (.t 74)) 3
  (.grd 75 true
  (.op (some 76) (.move (.t 0)) 7
  (.op (some 77) (.move (.t 1)) 7
  (.op (some 78) (.bin .sub (.t 77) (.c (.int .i64 1))) 23
  (.op (some 79) (.idxAddr 1 (.t 76) (.t 78)) 63
  (.op (some 80) (.load none (.t 79)) 127
  (.op (some 81) (.move (.t 0)) 7
  (.op (some 82) (.move (.t 11)) 7
  (.op (some 83) (.idxAddr 1 (.t 81) (.t 82)) 775
  (.op (some 84) (.load none (.t 83)) 1799
  (.op (some 85) (.call 66 [(.t 80), (.t 84)]) 4095
  (.op (some 86) (.un .not (.t 85)) 8191
  .nil)))))))))))
  (.op (some 87) (.pick (.t 75) (.t 86) (.c (.bool false))) 16383
  .nil)))))) true)
 (.cond (.t 87)
 (.seq (.region (Nodes.flat none (.op (some 88) (.move (.t 0)) 0
  (.op (some 89) (.move (.t 1)) 0
  (.op (some 90) (.move (.t 2)) 0
  (.op (some 91) (.move (.t 11)) 0
  (.op (some 92) (.call 67 [(.t 88), (.t 89), (.t 90), (.t 91)]) 0
  (.op (some 13) (.move (.t 92)) 0
  .nil))))))) false)
 (.seq (.region (Nodes.flat none (.op (some 93) (.move (.t 13)) 0
  (.op (some 1) (.move (.t 93)) 0
  .nil))) false)
 (.exit 1)))
 .skip))
 (.seq (.region (Nodes.flat none (.op (some 95) (.move (.t 0)) 0
  (.op (some 96) (.move (.t 1)) 0
  (.op (some 97) (.move (.t 2)) 0
  (.op (some 98) (.move (.t 11)) 0
  (.op (some 99) (.call 68 [(.t 95), (.t 96), (.t 97), (.t 98)]) 0
  (.op (some 94) (.move (.t 99)) 0
  (.op (some 100) (.extract 0 (.t 94)) 0
  (.op (some 101) (.extract 1 (.t 94)) 0
  (.op (some 14) (.move (.t 100)) 0
  (.op (some 15) (.move (.t 101)) 0
  .nil))))))))))) false)
 (.seq (.region (Nodes.flat none (.op (some 102) (.move (.t 15)) 0
  (.op (some 9) (.move (.t 102)) 0
  .nil))) false)
 (.seq (.region (Nodes.flat none (.op (some 103) (.move (.t 14)) 0
  (.op (some 104) (.move (.t 1)) 0
  (.op (some 105) (.bin .sub (.t 103) (.t 104)) 0
  (.op (some 106) (.move (.t 2)) 0
  (.op (some 107) (.move (.t 14)) 0
  (.op (some 108) (.bin .sub (.t 106) (.t 107)) 0
  (.op (some 16) (.move (.t 105)) 0
  (.op (some 17) (.move (.t 108)) 0
  .nil))))))))) false)
 (.seq (.region (Nodes.flat none (.op (some 109) (.move (.t 10)) 0
  (.op (some 110) (.bin .quo (.t 109) (.c (.int .i64 8))) 0
  (.op (some 18) (.move (.t 110)) 0
  .nil)))) false)
 (.seq (.region (Nodes.flat none (.op (some 111) (.move (.t 16)) 0
  (.op (some 112) (.move (.t 17)) 0
  (.op (some 113) (.bin .lss (.t 111) (.t 112)) 0
  .nil)))) false)
 (.cond (.t 113)
 (.seq (.region (Nodes.flat none (.op (some 114) (.move (.t 16)) 0
  (.op (some 115) (.move (.t 18)) 0
  (.op (some 116) (.bin .geq (.t 114) (.t 115)) 0
  (.op (some 8) (.move (.t 116)) 0
  .nil))))) false)
 (.seq (.region (Nodes.flat none (.op (some 117) (.move (.t 0)) 0
  (.op (some 118) (.move (.t 1)) 0
  (.op (some 119) (.move (.t 14)) 0
  (.op (some 120) (.move (.t 3)) 0
  (.op (some 121) (.call 54 [(.t 117), (.t 118), (.t 119), (.t 120)]) 0
  .nil)))))) false)
 (.region (Nodes.flat none (.op (some 122) (.move (.t 14)) 0
  (.op (some 123) (.bin .add (.t 122) (.c (.int .i64 1))) 0
  (.op (some 1) (.move (.t 123)) 0
  .nil)))) false)))
 (.seq (.region (Nodes.flat none (.op (some 124) (.move (.t 17)) 0
  (.op (some 125) (.move (.t 18)) 0
  (.op (some 126) (.bin .geq (.t 124) (.t 125)) 0
  (.op (some 8) (.move (.t 126)) 0
  .nil))))) false)
 (.seq (.region (Nodes.flat none (.op (some 127) (.move (.t 0)) 0
  (.op (some 128) (.move (.t 14)) 0
  (.op (some 129) (.bin .add (.t 128) (.c (.int .i64 1))) 0
  (.op (some 130) (.move (.t 2)) 0
  (.op (some 131) (.move (.t 3)) 0
  (.op (some 132) (.call 54 [(.t 127), (.t 129), (.t 130), (.t 131)]) 0
  .nil))))))) false)
 (.region (Nodes.flat none (.op (some 133) (.move (.t 14)) 0
  (.op (some 2) (.move (.t 133)) 0
  .nil))) false)))))))))))))))))))))),
 []⟩
theorem b54 : fnOf Go.Proofs.Tryd.prog (owOf []) 54 = some c54 := by kernel_rfl
def c55 : RFn := ⟨(.seq (.region (Nodes.flat none (.op (some 2) (.move (.c (.int .i64 0))) 0
  .nil)) false)
 (.seq (.cond (.c (.bool false))
 (.seq (.region (Nodes.flat none (.op (some 3) (.move (.t 0)) 0
  (.op (some 4) (.conv .u32 (.t 3)) 0
  (.op (some 5) (.call 69 [(.t 4)]) 0
  (.op (some 2) (.move (.t 5)) 0
  .nil))))) false)
 .ret)
 .skip)
 (.seq (.region (Nodes.flat none (.op (some 6) (.move (.t 0)) 0
  (.op (some 7) (.call 70 [(.t 6)]) 0
  (.op (some 2) (.move (.t 7)) 0
  .nil)))) false)
 .ret))),
 [.tmp 2]⟩
theorem b55 : fnOf Go.Proofs.Tryd.prog (owOf []) 55 = some c55 := by kernel_rfl
def c60 : RFn := ⟨(.seq (.region (Nodes.flat none (.op (some 8) (.move (.t 1)) 0
  (.op (some 9) (.bin .add (.t 8) (.c (.int .i64 1))) 0
  (.op (some 6) (.move (.t 9)) 0
  .nil)))) false)
 (.block 0 (.loop (.seq (.seq (.region (Nodes.flat none (.op (some 10) (.move (.t 6)) 0
  (.op (some 11) (.move (.t 2)) 0
  (.op (some 12) (.bin .lss (.t 10) (.t 11)) 0
  .nil)))) false)
 (.cond (.t 12)
 .skip
 (.exit 0)))
 (.seq (.block 1 (.seq (.region (Nodes.flat none (.op (some 15) (.move (.t 6)) 0
  (.op (some 7) (.move (.t 15)) 0
  .nil))) false)
 (.block 2 (.loop (.seq (.seq (.region (Nodes.flat none (.op (some 16) (.move (.t 7)) 0
  (.op (some 17) (.move (.t 1)) 0
  (.op (some 18) (.bin .gtr (.t 16) (.t 17)) 3
  (.op (some 19) (.move (.t 18)) 7
  (.grd 19 true
  (.op (some 20) (.move (.t 0)) 15
  (.op (some 21) (.move (.t 7)) 15
  (.op (some 22) (.idxAddr 1 (.t 20) (.t 21)) 63
  (.op (some 23) (.load none (.t 22)) 127
  (.op (some 24) (.move (.t 0)) 15
  (.op (some 25) (.move (.t 7)) 15
  (.op (some 26) (.bin .sub (.t 25) (.c (.int .i64 1))) 527
  (.op (some 27) (.idxAddr 1 (.t 24) (.t 26)) 1807
  (.op (some 28) (.load none (.t 27)) 3855
  (.op (some 29) (.call 66 [(.t 23), (.t 28)]) 8191
  .nil))))))))))
  (.op (some 30) (.pick (.t 19) (.t 29) (.c (.bool false))) 16383
  .nil))))))) true)
 (.cond (.t 30)
 .skip
 (.exit 2)))
 (.seq (.block 3 (.region (Nodes.flat none (.op (some 33) (.move (.t 0)) 0
  (.op (some 34) (.move (.t 7)) 0
  (.op (some 35) (.move (.t 0)) 0
  (.op (some 36) (.move (.t 7)) 0
  (.op (some 37) (.bin .sub (.t 36) (.c (.int .i64 1))) 8
  (.op (some 38) (.move (.t 0)) 0
  (.op (some 39) (.move (.t 7)) 0
  (.op (some 40) (.bin .sub (.t 39) (.c (.int .i64 1))) 64
  (.op (some 41) (.idxAddr 1 (.t 38) (.t 40)) 224
  (.op (some 42) (.load none (.t 41)) 480
  (.op (some 43) (.move (.t 0)) 0
  (.op (some 44) (.move (.t 7)) 0
  (.op (some 45) (.idxAddr 1 (.t 43) (.t 44)) 3072
  (.op (some 46) (.load none (.t 45)) 7168
  (.op (some 47) (.idxAddr 1 (.t 33) (.t 34)) 16355
  (.op none (.store 1 (.t 47) (.t 42)) 32739
  (.op (some 48) (.idxAddr 1 (.t 35) (.t 37)) 65535
  (.op none (.store 1 (.t 48) (.t 46)) 131071
  .nil))))))))))))))))))) true))
 (.region (Nodes.flat none (.op (some 31) (.move (.t 7)) 0
  (.op (some 32) (.bin .sub (.t 31) (.c (.int .i64 1))) 0
  (.op (some 7) (.move (.t 32)) 0
  .nil)))) false)))))))
 (.region (Nodes.flat none (.op (some 13) (.move (.t 6)) 0
  (.op (some 14) (.bin .add (.t 13) (.c (.int .i64 1))) 0
  (.op (some 6) (.move (.t 14)) 0
  .nil)))) false)))))),
 []⟩
theorem b60 : fnOf Go.Proofs.Tryd.prog (owOf []) 60 = some c60 := by kernel_rfl
def c66 : RFn := ⟨(.seq (.region (Nodes.flat none (.op (some 4) (.move (.c (.bool false))) 0
  .nil)) false)
 (.seq (.region (Nodes.flat none (.op (some 5) (.move (.t 0)) 0
  (.op (some 6) (.call 78 [(.t 5)]) 0
  (.op (some 7) (.move (.t 6)) 0
  (.grd 7 true
  (.op (some 8) (.move (.t 1)) 0
  (.op (some 9) (.call 78 [(.t 8)]) 0
  (.op (some 10) (.un .not (.t 9)) 0
  .nil)))
  (.op (some 11) (.pick (.t 7) (.t 10) (.c (.bool false))) 0
  (.op (some 12) (.move (.t 11)) 0
  (.grd 12 false
  (.op (some 13) (.move (.t 0)) 0
  (.op (some 14) (.move (.t 1)) 0
  (.op (some 15) (.bin .lss (.t 13) (.t 14)) 0
  .nil)))
  (.op (some 16) (.pick (.t 12) (.c (.bool true)) (.t 15)) 0
  (.op (some 4) (.move (.t 16)) 0
  .nil)))))))))) false)
 .ret)),
 [.tmp 4]⟩
theorem b66 : fnOf Go.Proofs.Tryd.prog (owOf []) 66 = some c66 := by kernel_rfl
def c70 : RFn := ⟨(.seq (.region (Nodes.flat none (.op (some 2) (.move (.c (.int .i64 0))) 0
  .nil)) false)
 (.seq (.seq (.region (Nodes.flat none (.op (some 3) (.move (.t 0)) 0
  (.op (some 4) (.bin .geq (.t 3) (.c (.int .u64 4294967296))) 0
  .nil))) false)
 (.cond (.t 4)
 (.seq (.region (Nodes.flat none (.op (some 5) (.move (.t 0)) 0
  (.op (some 6) (.bin .shr (.t 5) (.c (.int .u64 32))) 0
  (.op (some 0) (.move (.t 6)) 0
  .nil)))) false)
 (.region (Nodes.flat none (.op (some 2) (.move (.c (.int .i64 32))) 0
  .nil)) false))
 .skip))
 (.seq (.seq (.region (Nodes.flat none (.op (some 7) (.move (.t 0)) 0
  (.op (some 8) (.bin .geq (.t 7) (.c (.int .u64 65536))) 0
  .nil))) false)
 (.cond (.t 8)
 (.seq (.region (Nodes.flat none (.op (some 9) (.move (.t 0)) 0
  (.op (some 10) (.bin .shr (.t 9) (.c (.int .u64 16))) 0
  (.op (some 0) (.move (.t 10)) 0
  .nil)))) false)
 (.region (Nodes.flat none (.op (some 11) (.move (.t 2)) 0
  (.op (some 12) (.bin .add (.t 11) (.c (.int .i64 16))) 0
  (.op (some 2) (.move (.t 12)) 0
  .nil)))) false))
 .skip))
 (.seq (.seq (.region (Nodes.flat none (.op (some 13) (.move (.t 0)) 0
  (.op (some 14) (.bin .geq (.t 13) (.c (.int .u64 256))) 0
  .nil))) false)
 (.cond (.t 14)
 (.seq (.region (Nodes.flat none (.op (some 15) (.move (.t 0)) 0
  (.op (some 16) (.bin .shr (.t 15) (.c (.int .u64 8))) 0
  (.op (some 0) (.move (.t 16)) 0
  .nil)))) false)
 (.region (Nodes.flat none (.op (some 17) (.move (.t 2)) 0
  (.op (some 18) (.bin .add (.t 17) (.c (.int .i64 8))) 0
  (.op (some 2) (.move (.t 18)) 0
  .nil)))) false))
 .skip))
 (.seq (.region (Nodes.flat none (.op (some 19) (.move (.t 2)) 0
  (.op (some 20) (.move (.t 0)) 0
  (.op (some 21) (.conv .u8 (.t 20)) 0
  (.op (some 22) (.prim .sidx [(.c (.str ⟨#[0, 1, 2, 2, 3, 3, 3, 3, 4, 4, 4, 4, 4, 4, 4, 4, 5, 5, 5, 5, 5, 5, 5, 5, 5, 5, 5, 5, 5, 5, 5, 5, 6, 6, 6, 6, 6, 6, 6, 6, 6, 6, 6, 6, 6, 6, 6, 6, 6, 6, 6, 6, 6, 6, 6, 6, 6, 6, 6, 6, 6, 6, 6, 6, 7, 7, 7, 7, 7, 7, 7, 7, 7, 7, 7, 7, 7, 7, 7, 7, 7, 7, 7, 7, 7, 7, 7, 7, 7, 7, 7, 7, 7, 7, 7, 7, 7, 7, 7, 7, 7, 7, 7, 7, 7, 7, 7, 7, 7, 7, 7, 7, 7, 7, 7, 7, 7, 7, 7, 7, 7, 7, 7, 7, 7, 7, 7, 7, 8, 8, 8, 8, 8, 8, 8, 8, 8, 8, 8, 8, 8, 8, 8, 8, 8, 8, 8, 8, 8, 8, 8, 8, 8, 8, 8, 8, 8, 8, 8, 8, 8, 8, 8, 8, 8, 8, 8, 8, 8, 8, 8, 8, 8, 8, 8, 8, 8, 8, 8, 8, 8, 8, 8, 8, 8, 8, 8, 8, 8, 8, 8, 8, 8, 8, 8, 8, 8, 8, 8, 8, 8, 8, 8, 8, 8, 8, 8, 8, 8, 8, 8, 8, 8, 8, 8, 8, 8, 8, 8, 8, 8, 8, 8, 8, 8, 8, 8, 8, 8, 8, 8, 8, 8, 8, 8, 8, 8, 8, 8, 8, 8, 8, 8, 8, 8, 8, 8, 8, 8, 8, 8, 8, 8, 8, 8, 8]⟩)), (.t 21)]) 0
  (.op (some 23) (.conv .i64 (.t 22)) 0
  (.op (some 24) (.bin .add (.t 19) (.t 23)) 0
  (.op (some 2) (.move (.t 24)) 0
  .nil)))))))) false)
 .ret))))),
 [.tmp 2]⟩
theorem b70 : fnOf Go.Proofs.Tryd.prog (owOf []) 70 = some c70 := by kernel_rfl
def c78 : RFn := ⟨(.seq (.region (Nodes.flat none (.op (some 2) (.move (.c (.bool false))) 0
  .nil)) false)
 (.seq (.region (Nodes.flat none (.op (some 3) (.move (.t 0)) 0
  (.op (some 4) (.move (.t 0)) 0
  (.op (some 5) (.bin .neq (.t 3) (.t 4)) 0
  (.op (some 2) (.move (.t 5)) 0
  .nil))))) false)
 .ret)),
 [.tmp 2]⟩
theorem b78 : fnOf Go.Proofs.Tryd.prog (owOf []) 78 = some c78 := by kernel_rfl
end Go.Vm
end
section
/- Walks. -/
set_option maxRecDepth 100000
set_option linter.unusedSimpArgs false
set_option linter.unusedVariables false
namespace Go.Vm
open Go
set_option maxHeartbeats 4000000
section
variable {gl : Nat → Option PV}
theorem p_isNaN (a : Int) : Pure Go.Proofs.Tryd.prog gl 78 [.int .i64 a] (.bool false) := by
  refine Pure.fn hmix b78 ?_
  repeat' first
    | with_reducible refine tr_seq ?_
    | ((with_reducible refine tr_region_f ?_ ?_); kernel_rfl)
    | with_reducible refine n_nil ?_
    | with_reducible refine seqQ_normal ?_
    | with_reducible refine seqQ_ret ?_
    | with_reducible refine blkQ_ret ?_
    | with_reducible refine tr_ret ?_
    | ((with_reducible apply n_val); rfl; rfl)
    | ((with_reducible apply fnQ_told_ret); rfl)
    | ((with_reducible apply fnQ_ret_soft); rfl; rfl)
  simp
theorem p_cmpLess (a b : Int) : Pure Go.Proofs.Tryd.prog gl 66 [.int .i64 a, .int .i64 b] (.bool (decide (a < b))) := by
  refine Pure.fn hmix b66 ?_
  repeat' first
    | with_reducible refine tr_seq ?_
    | ((with_reducible refine tr_region_f ?_ ?_); kernel_rfl)
    | with_reducible refine n_nil ?_
    | exact ⟨rfl, rfl⟩
    | with_reducible refine seqQ_normal ?_
    | with_reducible refine seqQ_ret ?_
    | with_reducible refine blkQ_ret ?_
    | with_reducible refine tr_ret ?_
    | ((with_reducible apply n_and); rfl; rfl; intro h)
    | ((with_reducible apply n_or); rfl; rfl; intro h)
    | ((with_reducible apply n_val); rfl; rfl)
    | ((with_reducible apply n_call (f := 78)); rfl; rfl; exact p_isNaN ..)
    | ((with_reducible apply fnQ_told_ret); rfl)
    | ((with_reducible apply fnQ_ret_soft); rfl; rfl)
  all_goals rfl
theorem h_insertion (l : List Int) (hl : l.length ≤ 1000) (g : Nat) (i0 : In) : HSpec Go.Proofs.Tryd.prog gl 60 [.ref 3 g 0 l.length, .int .i64 0, .int .i64 (l.length : Int)] (Hp.ofL [some ⟨0, 11, [pI i0]⟩, none, none, some ⟨g, 1, l.map pint⟩]) (fun r G => r = .tup [] ∧ G = Hp.ofL [some ⟨0, 11, [pI i0]⟩, none, none, some ⟨g, 1, (srt (l.length - 1) l).map pint⟩]) := by
  refine HSpec.fnL (Nat.le_refl _) hmix b60 ?_
  change Tr _ _ 4 _ _ _ _
  repeat' first
    | with_reducible refine tr_seq ?_
    | ((with_reducible refine tr_region_f ?_ ?_); kernel_rfl)
    | ((with_reducible refine tr_region_t ?_ ?_ ?_); kernel_rfl; kernel_rfl)
    | with_reducible refine n_nil ?_
    | exact ⟨rfl, rfl⟩
    | with_reducible refine seqQ_normal ?_
    | with_reducible refine seqQ_exit ?_
    | with_reducible refine blkQ_normal ?_
    | with_reducible refine blkQ_exit ?_
    | ((with_reducible refine blkQ_exit_ne ?_ ?_); rfl)
    | with_reducible refine tr_block ?_
    | with_reducible refine tr_skip ?_
    | with_reducible refine tr_exit ?_
    | ((with_reducible apply tr_cond_e); rfl)
    | with_reducible refine condT_t ?_
    | with_reducible refine condT_f ?_
    | ((with_reducible apply n_and); rfl; rfl; intro h)
    | ((with_reducible apply n_or); rfl; rfl; intro h)
    | with_reducible refine loopV_exit ?_
    | with_reducible refine loopV_ret ?_
    | ((with_reducible apply n_idx_own); rfl; rfl; rfl; (first | omega | (simp only [decide_eq_true_eq, decide_eq_false_iff_not, Bool.or_eq_false_iff, Bool.not_eq_true', Bool.not_eq_false', Bool.not_true, Bool.not_false, Bool.and_eq_true, ints_length, List.length_map, tab_length, List.length_set, srt_length, swp_length] at *; omega)))
    | ((with_reducible apply n_load_vals (f := pint) (0 : Int)); rfl; rfl; rfl; (first | omega | (simp only [decide_eq_true_eq, decide_eq_false_iff_not, Bool.or_eq_false_iff, Bool.not_eq_true', Bool.not_eq_false', Bool.not_true, Bool.not_false, Bool.and_eq_true, ints_length, List.length_map, tab_length, List.length_set, srt_length, swp_length] at *; omega)))
    | ((with_reducible apply n_store_vals (f := pint)); rfl; rfl; rfl; rfl; exact (fun _ => rfl); (first | omega | (simp only [decide_eq_true_eq, decide_eq_false_iff_not, Bool.or_eq_false_iff, Bool.not_eq_true', Bool.not_eq_false', Bool.not_true, Bool.not_false, Bool.and_eq_true, ints_length, List.length_map, tab_length, List.length_set, srt_length, swp_length] at *; omega)))
    | (first | ((with_reducible apply n_bin); rfl; rfl; focus ((with_reducible (first | apply b_add | apply b_sub)) <;> first | omega | (simp only [decide_eq_true_eq, decide_eq_false_iff_not, Bool.or_eq_false_iff, Bool.not_eq_true', Bool.not_eq_false', Bool.not_true, Bool.not_false, Bool.and_eq_true, ints_length, List.length_map, tab_length, List.length_set, srt_length, swp_length] at *; omega))) | ((with_reducible apply n_max); rfl; rfl) | ((with_reducible apply n_min); rfl; rfl))
    | (refine tr_loop_v (α := Nat) 4 (fun | i => [(6, some (.int .i64 (i : Int))), (10, none), (11, none), (12, none), (15, none), (7, none), (16, none), (17, none), (18, none), (19, none), (20, none), (21, none), (22, none), (23, none), (24, none), (25, none), (26, none), (27, none), (28, none), (29, none), (30, none), (33, none), (34, none), (35, none), (36, none), (37, none), (38, none), (39, none), (40, none), (41, none), (42, none), (43, none), (44, none), (45, none), (46, none), (47, none), (48, none), (31, none), (32, none), (13, none), (14, none)]) (fun | i => [some ⟨0, 11, [pI i0]⟩, none, none, some ⟨g, 1, (srt (i - 1) l).map pint⟩]) (fun | i => 1 ≤ i ∧ i ≤ max l.length 1) (fun | i => l.length - i) (1) (ks := [6, 10, 11, 12, 15, 7, 16, 17, 18, 19, 20, 21, 22, 23, 24, 25, 26, 27, 28, 29, 30, 33, 34, 35, 36, 37, 38, 39, 40, 41, 42, 43, 44, 45, 46, 47, 48, 31, 32, 13, 14]) (fun _ => rfl) (fun _ => rfl) rfl (by omega) ?_ ⟨⟨_, rfl, rfl⟩, trivial⟩ ⟨⟨_, rfl, rfl, rfl, (by first | exact fzP_vals (fun _ => rfl) rfl | exact fzP_vals (fun _ => rfl) (srt_fin (by assumption) hx h) |  rfl | exact fzP_pure (ints_pure _) | exact fzP_pure (u64s_pure _) | exact fzP_pure (by assumption) | exact fzP_pure (by first | (simp [pureE, pure1, ints]; done) | (simp_all [pe_int, pe_bool, pe_str, pe_sl, pe_agg, p1_int, p1_bool, p1_str, p1_sl]; done)))⟩, ⟨_, rfl, rfl, rfl, (by first | exact fzP_vals (fun _ => rfl) rfl | exact fzP_vals (fun _ => rfl) (srt_fin (by assumption) hx h) |  rfl | exact fzP_pure (ints_pure _) | exact fzP_pure (u64s_pure _) | exact fzP_pure (by assumption) | exact fzP_pure (by first | (simp [pureE, pure1, ints]; done) | (simp_all [pe_int, pe_bool, pe_str, pe_sl, pe_agg, p1_int, p1_bool, p1_str, p1_sl]; done)))⟩, trivial⟩ ?_; rotate_left; rintro i hx; try dsimp only at hx)
    | ((first | (refine loopV_normal (i + 1) ?_ ⟨⟨_, rfl, rfl⟩, trivial⟩ ⟨⟨_, rfl, rfl, rfl, (by first | exact fzP_vals (fun _ => rfl) rfl | exact fzP_vals (fun _ => rfl) (srt_fin (by assumption) hx h) |  rfl | exact fzP_pure (ints_pure _) | exact fzP_pure (u64s_pure _) | exact fzP_pure (by assumption) | exact fzP_pure (by first | (simp [pureE, pure1, ints]; done) | (simp_all [pe_int, pe_bool, pe_str, pe_sl, pe_agg, p1_int, p1_bool, p1_str, p1_sl]; done)))⟩, ⟨_, rfl, rfl, rfl, (by first | exact fzP_vals (fun _ => rfl) rfl | exact fzP_vals (fun _ => rfl) (srt_fin (by assumption) hx h) |  rfl | exact fzP_pure (ints_pure _) | exact fzP_pure (u64s_pure _) | exact fzP_pure (by assumption) | exact fzP_pure (by first | (simp [pureE, pure1, ints]; done) | (simp_all [pe_int, pe_bool, pe_str, pe_sl, pe_agg, p1_int, p1_bool, p1_str, p1_sl]; done)))⟩, trivial⟩ ?_ ?_)); repeat (first | exact only_refl | refine only_put rfl ?_ | refine only_less rfl ?_ | refine only_ov rfl ?_))
    | (refine tr_loop_v (α := Int × List Int) 4 (fun | (j, ys) => [(7, some (.int .i64 j)), (16, none), (17, none), (18, none), (19, none), (20, none), (21, none), (22, none), (23, none), (24, none), (25, none), (26, none), (27, none), (28, none), (29, none), (30, none), (33, none), (34, none), (35, none), (36, none), (37, none), (38, none), (39, none), (40, none), (41, none), (42, none), (43, none), (44, none), (45, none), (46, none), (47, none), (48, none), (31, none), (32, none)]) (fun | (j, ys) => [some ⟨0, 11, [pI i0]⟩, none, none, some ⟨g, 1, ys.map pint⟩]) (fun | (j, ys) => 0 ≤ j ∧ j ≤ i ∧ ys.length = l.length ∧ inn j.toNat ys = inn i (srt (i - 1) l)) (fun | (j, ys) => j.toNat) (((i : Int), srt (i - 1) l)) (ks := [7, 16, 17, 18, 19, 20, 21, 22, 23, 24, 25, 26, 27, 28, 29, 30, 33, 34, 35, 36, 37, 38, 39, 40, 41, 42, 43, 44, 45, 46, 47, 48, 31, 32]) (fun _ => rfl) (fun _ => rfl) rfl (by omega) ?_ ⟨⟨_, rfl, rfl⟩, trivial⟩ ⟨⟨_, rfl, rfl, rfl, (by first | exact fzP_vals (fun _ => rfl) rfl | exact fzP_vals (fun _ => rfl) (srt_fin (by assumption) hx h) |  rfl | exact fzP_pure (ints_pure _) | exact fzP_pure (u64s_pure _) | exact fzP_pure (by assumption) | exact fzP_pure (by first | (simp [pureE, pure1, ints]; done) | (simp_all [pe_int, pe_bool, pe_str, pe_sl, pe_agg, p1_int, p1_bool, p1_str, p1_sl]; done)))⟩, ⟨_, rfl, rfl, rfl, (by first | exact fzP_vals (fun _ => rfl) rfl | exact fzP_vals (fun _ => rfl) (srt_fin (by assumption) hx h) |  rfl | exact fzP_pure (ints_pure _) | exact fzP_pure (u64s_pure _) | exact fzP_pure (by assumption) | exact fzP_pure (by first | (simp [pureE, pure1, ints]; done) | (simp_all [pe_int, pe_bool, pe_str, pe_sl, pe_agg, p1_int, p1_bool, p1_str, p1_sl]; done)))⟩, trivial⟩ ?_; rotate_left; rintro ⟨j, ys⟩ hx; try dsimp only at hx)
    | ((first | (refine loopV_normal ((j - 1, (ys.set j.toNat (ys.getD (j - 1).toNat 0)).set (j - 1).toNat (ys.getD j.toNat 0))) ?_ ⟨⟨_, rfl, rfl⟩, trivial⟩ ⟨⟨_, rfl, rfl, rfl, (by first | exact fzP_vals (fun _ => rfl) rfl | exact fzP_vals (fun _ => rfl) (srt_fin (by assumption) hx h) |  rfl | exact fzP_pure (ints_pure _) | exact fzP_pure (u64s_pure _) | exact fzP_pure (by assumption) | exact fzP_pure (by first | (simp [pureE, pure1, ints]; done) | (simp_all [pe_int, pe_bool, pe_str, pe_sl, pe_agg, p1_int, p1_bool, p1_str, p1_sl]; done)))⟩, ⟨_, rfl, rfl, rfl, (by first | exact fzP_vals (fun _ => rfl) rfl | exact fzP_vals (fun _ => rfl) (srt_fin (by assumption) hx h) |  rfl | exact fzP_pure (ints_pure _) | exact fzP_pure (u64s_pure _) | exact fzP_pure (by assumption) | exact fzP_pure (by first | (simp [pureE, pure1, ints]; done) | (simp_all [pe_int, pe_bool, pe_str, pe_sl, pe_agg, p1_int, p1_bool, p1_str, p1_sl]; done)))⟩, trivial⟩ ?_ ?_)); repeat (first | exact only_refl | refine only_put rfl ?_ | refine only_less rfl ?_ | refine only_ov rfl ?_))
    | ((with_reducible apply n_val); rfl; rfl)
    | ((with_reducible apply n_store); rfl; rfl; rfl; rfl; rfl)
    | ((with_reducible apply n_call (f := 66)); rfl; rfl; exact p_cmpLess ..)
    | (with_reducible refine condT_split (fun h => ?_) (fun h => ?_))
    | ((with_reducible apply fnQ_normal_soft); rfl; rfl)
  all_goals (try dsimp only at *)
  · simp only [Bool.and_eq_true, decide_eq_true_eq] at h
    omega
  · refine ⟨?_, ?_, ?_, ?_⟩
    · simp only [Bool.and_eq_true, decide_eq_true_eq] at h
      omega
    · omega
    · rw [List.length_set, List.length_set]
      exact hx.2.2.1
    · rw [inn_go h]
      exact hx.2.2.2
  · simp only [decide_eq_true_eq] at *
    omega
  · simp only [decide_eq_true_eq] at *
    omega
  · exact ⟨by omega, by omega, srt_length _ _, rfl⟩
  · have e : srt (i - 1) l = srt (l.length - 1) l := by
      congr 1
      simp only [decide_eq_false_iff_not] at h
      omega
    exact fnQ_normal (r := .tup []) rfl ⟨rfl, ⟨_, rfl, rfl, rfl, rfl⟩, ⟨_, rfl, rfl, rfl, fzP_vals (fun _ => rfl) e⟩, trivial⟩
  · omega
theorem h_pdq (l : List Int) (hl : l.length ≤ 12) (k : Int) (g : Nat) (i0 : In) : HSpec Go.Proofs.Tryd.prog gl 54 [.ref 3 g 0 l.length, .int .i64 0, .int .i64 (l.length : Int), .int .i64 k] (Hp.ofL [some ⟨0, 11, [pI i0]⟩, none, none, some ⟨g, 1, l.map pint⟩]) (fun r G => r = .tup [] ∧ G = Hp.ofL [some ⟨0, 11, [pI i0]⟩, none, none, some ⟨g, 1, (srt (l.length - 1) l).map pint⟩]) := by
  refine HSpec.fnL (Nat.le_refl _) hmix b54 ?_
  change Tr _ _ 4 _ _ _ _
  repeat' first
    | with_reducible refine tr_seq ?_
    | ((with_reducible refine tr_region_f ?_ ?_); kernel_rfl)
    | ((with_reducible refine tr_region_t ?_ ?_ ?_); kernel_rfl; kernel_rfl)
    | with_reducible refine n_nil ?_
    | exact ⟨rfl, rfl⟩
    | with_reducible refine seqQ_normal ?_
    | with_reducible refine seqQ_exit ?_
    | with_reducible refine seqQ_ret ?_
    | with_reducible refine blkQ_normal ?_
    | with_reducible refine blkQ_exit ?_
    | with_reducible refine blkQ_ret ?_
    | ((with_reducible refine blkQ_exit_ne ?_ ?_); rfl)
    | with_reducible refine tr_block ?_
    | with_reducible refine tr_skip ?_
    | with_reducible refine tr_exit ?_
    | with_reducible refine tr_ret ?_
    | ((with_reducible apply tr_cond_e); rfl)
    | with_reducible refine condT_t ?_
    | with_reducible refine condT_f ?_
    | ((with_reducible refine condT_T ?_ ?_); decide +kernel)
    | ((with_reducible refine condT_F ?_ ?_); decide +kernel)
    | ((with_reducible apply n_andF); rfl; rfl; decide +kernel)
    | ((with_reducible apply n_orT); rfl; rfl; decide +kernel)
    | ((with_reducible apply n_and); rfl; rfl; intro h)
    | ((with_reducible apply n_or); rfl; rfl; intro h)
    | with_reducible refine loopV_exit ?_
    | with_reducible refine loopV_ret ?_
    | with_reducible refine unrQ_normal ?_
    | with_reducible refine unrQ_exit ?_
    | with_reducible refine unrQ_ret ?_
    | refine tr_unroll 2 ?_
    | ((with_reducible refine condT_T ?_ ?_); (rw [decide_eq_true_eq]; omega))
    | (first | ((with_reducible apply n_bin); rfl; rfl; focus ((with_reducible (first | apply b_add | apply b_sub)) <;> first | omega | (simp only [decide_eq_true_eq, decide_eq_false_iff_not, Bool.or_eq_false_iff, Bool.not_eq_true', Bool.not_eq_false', Bool.not_true, Bool.not_false, Bool.and_eq_true, ints_length, List.length_map, tab_length, List.length_set, srt_length, swp_length] at *; omega))) | ((with_reducible apply n_max); rfl; rfl) | ((with_reducible apply n_min); rfl; rfl))
    | ((with_reducible apply n_val); rfl; rfl)
    | ((with_reducible apply n_spec (f := 60)); rfl; exact h_insertion l (by first | omega | (simp only [decide_eq_true_eq, decide_eq_false_iff_not, Bool.or_eq_false_iff, Bool.not_eq_true', Bool.not_eq_false', Bool.not_true, Bool.not_false, Bool.and_eq_true, ints_length, List.length_map, tab_length, List.length_set, srt_length, swp_length] at *; omega)) _ _; exact Nat.le_refl _)
    | (with_reducible refine condT_split (fun h => ?_) (fun h => ?_))
    | ((with_reducible apply fnQ_told_ret); rfl)
    | ((with_reducible apply fnQ_ret_soft); rfl; rfl)
  · rfl
  · exact ⟨⟨_, rfl, rfl, rfl, rfl⟩, ⟨_, rfl, rfl, rfl, fzP_vals (fun _ => rfl) rfl⟩, trivial⟩
theorem p_bitsLen (n : Nat) (h : n ≤ 12) : ∃ k : Int, Pure Go.Proofs.Tryd.prog gl 55 [.int .u64 (n : Int)] (.int .i64 k) := by
  have hT : TabOk Go.Proofs.Tryd.prog [(55, c55), (70, c70)] := ⟨⟨_, b55⟩, by kernel_rfl, ⟨_, b70⟩, by kernel_rfl, trivial⟩
  rcases (by omega : n = 0 ∨ n = 1 ∨ n = 2 ∨ n = 3 ∨ n = 4 ∨ n = 5 ∨ n = 6 ∨ n = 7 ∨ n = 8 ∨ n = 9 ∨ n = 10 ∨ n = 11 ∨ n = 12) with rfl | rfl | rfl | rfl | rfl | rfl | rfl | rfl | rfl | rfl | rfl | rfl | rfl
  · exact ⟨0, clc_sound hmix hT (k := 1) (d := 3) (by kernel_rfl)⟩
  · exact ⟨1, clc_sound hmix hT (k := 1) (d := 3) (by kernel_rfl)⟩
  · exact ⟨2, clc_sound hmix hT (k := 1) (d := 3) (by kernel_rfl)⟩
  · exact ⟨2, clc_sound hmix hT (k := 1) (d := 3) (by kernel_rfl)⟩
  · exact ⟨3, clc_sound hmix hT (k := 1) (d := 3) (by kernel_rfl)⟩
  · exact ⟨3, clc_sound hmix hT (k := 1) (d := 3) (by kernel_rfl)⟩
  · exact ⟨3, clc_sound hmix hT (k := 1) (d := 3) (by kernel_rfl)⟩
  · exact ⟨3, clc_sound hmix hT (k := 1) (d := 3) (by kernel_rfl)⟩
  · exact ⟨4, clc_sound hmix hT (k := 1) (d := 3) (by kernel_rfl)⟩
  · exact ⟨4, clc_sound hmix hT (k := 1) (d := 3) (by kernel_rfl)⟩
  · exact ⟨4, clc_sound hmix hT (k := 1) (d := 3) (by kernel_rfl)⟩
  · exact ⟨4, clc_sound hmix hT (k := 1) (d := 3) (by kernel_rfl)⟩
  · exact ⟨4, clc_sound hmix hT (k := 1) (d := 3) (by kernel_rfl)⟩
theorem h_Sort (l : List Int) (hl : l.length ≤ 12) (g : Nat) (i0 : In) : HSpec Go.Proofs.Tryd.prog gl 49 [.ref 3 g 0 l.length] (Hp.ofL [some ⟨0, 11, [pI i0]⟩, none, none, some ⟨g, 1, l.map pint⟩]) (fun r G => r = .tup [] ∧ G = Hp.ofL [some ⟨0, 11, [pI i0]⟩, none, none, some ⟨g, 1, (srt (l.length - 1) l).map pint⟩]) := by
  obtain ⟨k, hk⟩ := p_bitsLen (gl := gl) l.length hl
  rw [← wrap_u64_of (a := (l.length : Int)) (by omega)] at hk
  refine HSpec.fnL (Nat.le_refl _) hmix b49 ?_
  change Tr _ _ 4 _ _ _ _
  repeat' first
    | with_reducible refine tr_seq ?_
    | ((with_reducible refine tr_region_f ?_ ?_); kernel_rfl)
    | with_reducible refine n_nil ?_
    | with_reducible refine seqQ_normal ?_
    | (first | ((with_reducible apply n_bin); rfl; rfl; focus ((with_reducible (first | apply b_add | apply b_sub)) <;> first | omega | (simp only [decide_eq_true_eq, decide_eq_false_iff_not, Bool.or_eq_false_iff, Bool.not_eq_true', Bool.not_eq_false', Bool.not_true, Bool.not_false, Bool.and_eq_true, ints_length, List.length_map, tab_length, List.length_set, srt_length, swp_length] at *; omega))) | ((with_reducible apply n_max); rfl; rfl) | ((with_reducible apply n_min); rfl; rfl))
    | ((with_reducible apply n_call (f := 55)); rfl; rfl; exact hk)
    | ((with_reducible apply n_val); rfl; rfl)
    | ((with_reducible apply n_spec (f := 54)); rfl; exact h_pdq l (by first | omega | (simp only [decide_eq_true_eq, decide_eq_false_iff_not, Bool.or_eq_false_iff, Bool.not_eq_true', Bool.not_eq_false', Bool.not_true, Bool.not_false, Bool.and_eq_true, ints_length, List.length_map, tab_length, List.length_set, srt_length, swp_length] at *; omega)) k _ _; exact Nat.le_refl _)
    | ((with_reducible apply fnQ_normal_soft); rfl; rfl)
  exact fnQ_normal (r := .tup []) rfl ⟨rfl, ⟨_, rfl, rfl, rfl, rfl⟩, ⟨_, rfl, rfl, rfl, fzP_vals (fun _ => rfl) rfl⟩, trivial⟩
end
theorem p_sort0 {gl : Nat → Option PV} : Pure Go.Proofs.Tryd.prog gl 49 [.sl []] (.tup []) := by
  have hT : TabOk Go.Proofs.Tryd.prog [(49, c49), (55, c55), (70, c70), (54, c54), (60, c60)] := ⟨⟨_, b49⟩, by kernel_rfl, ⟨_, b55⟩, by kernel_rfl, ⟨_, b70⟩, by kernel_rfl, ⟨_, b54⟩, by kernel_rfl, ⟨_, b60⟩, by kernel_rfl, trivial⟩
  exact clc_sound hmix hT (k := 3) (d := 4) (by kernel_rfl)
end Go.Vm
end
