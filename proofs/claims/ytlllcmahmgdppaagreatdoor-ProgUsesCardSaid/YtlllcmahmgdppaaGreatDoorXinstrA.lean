/- Laid. -/
import Derived.Test.YtlllcmahmgdppaaGreatDoorVmThree
import Derived.KernelRfl
import Derived.Test.YtlllcmahmgdppaaGreatDoorProg
import Derived.Test.YtlllcmahmgdppaaGreatDoorXerrB
import Derived.Test.YtlllcmahmgdppaaGreatDoorLAll
section
/- Code. -/
set_option maxRecDepth 100000
set_option linter.unusedSimpArgs false
set_option linter.unusedVariables false
namespace Go.Vm
open Go
def c76 : RFn := ⟨(.seq (rf (.o 2 (.move (.c (.lit []))) .nil)) (.seq (rf (.o 3 (.move (.i 0)) .nil)) (.seq (rf (.o 4 (.move (.i 1)) .nil)) (.seq (rf (.o 5 (.move (.c (.int .u8 0))) .nil)) (.seq (.seq (rf (.o 6 (.move (.i 0)) .nil)) (.block 0 (.loop (.seq (.seq (rf (.o 13 (.m 6) (.o 14 (.m 0) (.o 15 (.len true (.t 14)) (.o 16 (.bin .lss (.t 13) (.t 15)) .nil))))) (.cond (.t 16) .skip (.exit 0))) (.seq (.block 1 (.seq (rf (.o 19 (.m 0) (.o 20 (.m 6) (.o 21 (.prim .sidx [(.t 19), (.t 20)]) (.o 7 (.m 21) .nil))))) (.seq (rf (.o 22 (.m 5) (.o 23 (.m 7) (.o 24 (.bin .or (.t 22) (.t 23)) (.o 5 (.m 24) .nil))))) (.seq (rf (.o 25 (.m 7) (.o 26 (.idxAddrA 256 1 (.g 1) (.t 25)) (.o 27 (.load none (.t 26)) (.o 28 (.conv .i64 (.t 27)) (.o 8 (.m 28) .nil)))))) (.seq (rf (.o 29 (.m 3) (.o 30 (.m 4) (.o 31 (.m 8) (.o 32 (.prim .compl [(.t 31)]) (.o 33 (.bin .and (.t 30) (.t 32)) (.o 34 (.bin .add (.t 29) (.t 33)) (.o 3 (.m 34) .nil)))))))) (rf (.o 35 (.m 8) (.o 4 (.m 35) .nil)))))))) (rf (.o 17 (.m 6) (.o 18 (.bin .add (.t 17) (.i 1)) (.o 6 (.m 18) .nil))))))))) (.seq (.seq (rf (.o 36 (.m 5) (.o 37 (.bin .geq (.t 36) (.c (.int .u8 128))) .nil))) (.cond (.t 37) (.seq (rf (.o 38 (.m 0) (.o 39 (.call 107 [(.t 38), (.c (.fn 108 []))]) (.o 2 (.m 39) .nil)))) .ret) .skip)) (.seq (rf (.o 40 (.m 3) (.o 41 (.mkslice 1 (.str ⟨#[]⟩) (.t 40)) (.o 9 (.m 41) .nil)))) (.seq (rf (.o 10 (.move (.i 0)) .nil)) (.seq (rf (.o 11 (.move (.i 0)) .nil)) (.seq (rf (.o 12 (.move (.i 0)) .nil)) (.seq (.block 2 (.loop (.seq (.seq (rf (.o 42 (.m 12) (.o 43 (.m 0) (.o 44 (.len true (.t 43)) (.o 45 (.bin .lss (.t 42) (.t 44)) (.o 46 (.m 45) (.grd 46 true (.o 47 (.m 0) (.o 48 (.m 12) (.o 49 (.prim .sidx [(.t 47), (.t 48)]) (.o 50 (.idxAddrA 256 1 (.g 1) (.t 49)) (.o 51 (.load none (.t 50)) (.o 52 (.bin .neq (.t 51) (.c (.int .u8 0))) .nil)))))) (.o 53 (.pick (.t 46) (.t 52) (.c (.bool false))) .nil)))))))) (.cond (.t 53) .skip (.exit 2))) (.block 3 (rf (.o 54 (.m 12) (.o 55 (.bin .add (.t 54) (.i 1)) (.o 12 (.m 55) .nil)))))))) (.seq (rf (.o 56 (.m 12) (.o 11 (.m 56) .nil))) (.seq (.block 4 (.loop (.seq (.seq (rf (.o 57 (.m 12) (.o 58 (.m 0) (.o 59 (.len true (.t 58)) (.o 60 (.bin .lss (.t 57) (.t 59)) .nil))))) (.cond (.t 60) .skip (.exit 4))) (.block 5 (.seq (.seq (rf (.o 61 (.m 0) (.o 62 (.m 12) (.o 63 (.prim .sidx [(.t 61), (.t 62)]) (.o 64 (.idxAddrA 256 1 (.g 1) (.t 63)) (.o 65 (.load none (.t 64)) (.o 66 (.bin .eql (.t 65) (.c (.int .u8 0))) .nil))))))) (.cond (.t 66) (.seq (rf (.o 67 (.m 12) (.o 68 (.bin .add (.t 67) (.i 1)) (.o 12 (.m 68) .nil)))) (.exit 5)) .skip)) (.seq (rf (.o 69 (.m 9) (.o 70 (.m 10) (.o 71 (.m 0) (.o 72 (.m 11) (.o 73 (.m 12) (.o 74 (.prim (.sliceStr true true) [(.t 71), (.t 72), (.t 73)]) (.o 75 (.idxAddr 1 (.t 69) (.t 70)) (.op none (.store 1 (.t 75) (.t 74)) 0 .nil))))))))) (.seq (rf (.o 76 (.m 10) (.o 77 (.bin .add (.t 76) (.i 1)) (.o 10 (.m 77) .nil)))) (.seq (rf (.o 78 (.m 12) (.o 79 (.bin .add (.t 78) (.i 1)) (.o 12 (.m 79) .nil)))) (.seq (.block 6 (.loop (.seq (.seq (rf (.o 80 (.m 12) (.o 81 (.m 0) (.o 82 (.len true (.t 81)) (.o 83 (.bin .lss (.t 80) (.t 82)) (.o 84 (.m 83) (.grd 84 true (.o 85 (.m 0) (.o 86 (.m 12) (.o 87 (.prim .sidx [(.t 85), (.t 86)]) (.o 88 (.idxAddrA 256 1 (.g 1) (.t 87)) (.o 89 (.load none (.t 88)) (.o 90 (.bin .neq (.t 89) (.c (.int .u8 0))) .nil)))))) (.o 91 (.pick (.t 84) (.t 90) (.c (.bool false))) .nil)))))))) (.cond (.t 91) .skip (.exit 6))) (.block 7 (rf (.o 92 (.m 12) (.o 93 (.bin .add (.t 92) (.i 1)) (.o 12 (.m 93) .nil)))))))) (rf (.o 94 (.m 12) (.o 11 (.m 94) .nil)))))))))))) (.seq (.seq (rf (.o 95 (.m 11) (.o 96 (.m 0) (.o 97 (.len true (.t 96)) (.o 98 (.bin .lss (.t 95) (.t 97)) .nil))))) (.cond (.t 98) (rf (.o 99 (.m 9) (.o 100 (.m 10) (.o 101 (.m 0) (.o 102 (.m 11) (.o 103 (.prim (.sliceStr true false) [(.t 101), (.t 102)]) (.o 104 (.idxAddr 1 (.t 99) (.t 100)) (.op none (.store 1 (.t 104) (.t 103)) 0 .nil)))))))) .skip)) (.seq (rf (.o 105 (.m 9) (.o 2 (.m 105) .nil))) .ret))))))))))))))), [.tmp 2]⟩
theorem b76 : fnOf Go.Proofs.Tryz.prog (owOf []) 76 = some c76 := by kernel_rfl
end Go.Vm
end
section
/- Walks. -/
set_option maxRecDepth 100000
set_option linter.unusedSimpArgs false
set_option linter.unusedVariables false
namespace Go.Vm
open Go
set_option maxHeartbeats 4000000
def glD : Nat → Option PV := fun n => bif n == 1 then some (.fptr asciiL) else bif n == 0 then some (.fptr [.raw errH]) else none
theorem p_fields : Pure Go.Proofs.Tryz.prog glD 76 [.str ⟨#[99, 111, 110, 115, 116, 32, 99, 111, 112, 121, 32, 110, 101, 103, 32, 97, 100, 100, 32, 115, 117, 98, 32, 109, 117, 108, 32, 105, 110, 112, 117, 116, 32, 99, 97, 108, 108, 32, 117, 115, 101, 32, 114, 101, 116]⟩] (.sl (nmL.map .str)) := by
  have hT : TabOk Go.Proofs.Tryz.prog [(76, c76)] := ⟨⟨_, b76⟩, by kernel_rfl, trivial⟩
  exact clc_sound hmix hT (k := 60) (d := 1) (by kernel_rfl)
end Go.Vm
end
