/- Laid. -/
import Derived.Test.YtlllcmahmgdppaaGreatDoorVmThree
import Derived.KernelRfl
import Derived.Test.YtlllcmahmgdppaaGreatDoorProg
import Derived.Test.YtlllcmahmgdppaaGreatDoorXeditA
section
/- Code. -/
set_option maxRecDepth 100000
set_option linter.unusedSimpArgs false
set_option linter.unusedVariables false
namespace Go.Vm
open Go
def c40 : RFn := ⟨(.seq (rf (.o 2 (.box (.t 0)) (.o 3 (.box (.t 1)) (.o 4 (.move (.i 0)) .nil)))) (.seq (rf (.o 6 (.load (some 1) (.t 2)) (.o 7 (.load (some 17) (.t 3)) (.o 8 (.build [(.lit []), (.int .i64 0), (.int .i64 0), (.int .i64 0), (.int .i64 0), (.int .i64 0), (.int .i64 0), (.int .i64 0), (.int .i64 0), (.int .i64 0), (.int .i64 0), (.int .i64 0), (.int .i64 0), (.int .i64 0), (.int .i64 0), (.int .i64 0), (.int .i64 0), (.int .i64 0)] [(0, 1, (.t 6)), (1, 17, (.t 7))]) (.o 5 (.alloc (.agg [(.lit []), (.int .i64 0), (.int .i64 0), (.int .i64 0), (.int .i64 0), (.int .i64 0), (.int .i64 0), (.int .i64 0), (.int .i64 0), (.int .i64 0), (.int .i64 0), (.int .i64 0), (.int .i64 0), (.int .i64 0), (.int .i64 0), (.int .i64 0), (.int .i64 0), (.int .i64 0)])) (.op none (.store 18 (.t 5) (.t 8)) 0 .nil)))))) (.seq (.block 0 (.seq (rf (.o 10 (.load (some 1) (.t 2)) (.o 11 (.call 13 [(.t 10)]) (.o 12 (.un .not (.t 11)) (.o 9 (.m 12) .nil))))) (.cond (.t 9) (.seq (rf (.o 4 (.move (.i 11)) .nil)) .ret) (.seq (rf (.o 14 (.fieldAddr 0 (.t 3)) (.o 15 (.load none (.t 14)) (.o 16 (.call 47 [(.t 15)]) (.o 17 (.bin .eql (.t 16) (.c (.str ⟨#[]⟩))) (.o 13 (.m 17) .nil)))))) (.cond (.t 13) (.seq (rf (.o 4 (.move (.i 9)) .nil)) .ret) (.seq (rf (.o 19 (.fieldAddr 0 (.t 3)) (.o 20 (.load none (.t 19)) (.o 21 (.bin .eql (.t 20) (.i 0)) (.o 18 (.m 21) .nil))))) (.cond (.t 18) (.seq (rf (.o 22 (.load (some 18) (.t 5)) (.o 23 (.call 67 [(.t 22)]) (.o 4 (.m 23) .nil)))) .ret) (.seq (rf (.o 25 (.fieldAddr 1 (.t 3)) (.o 26 (.load none (.t 25)) (.o 27 (.bin .lss (.t 26) (.i 0)) (.o 28 (.m 27) (.grd 28 false (.o 29 (.fieldAddr 1 (.t 3)) (.o 30 (.load none (.t 29)) (.o 31 (.fieldAddr 0 (.t 2)) (.o 32 (.load none (.t 31)) (.o 33 (.len false (.t 32)) (.o 34 (.bin .geq (.t 30) (.t 33)) .nil)))))) (.o 35 (.pick (.t 28) (.c (.bool true)) (.t 34)) (.o 24 (.m 35) .nil)))))))) (.cond (.t 24) (.seq (rf (.o 4 (.move (.i 1)) .nil)) .ret) .skip))))))))) (.seq (rf (.o 36 (.load (some 18) (.t 5)) (.o 37 (.call 68 [(.t 36)]) (.o 4 (.m 37) .nil)))) .ret)))), [.tmp 4]⟩
theorem b40 : fnOf Go.Proofs.Tryz.prog (owOf []) 40 = some c40 := by kernel_rfl
def c43 : RFn := ⟨(.seq (rf (.o 2 (.box (.t 0)) (.o 3 (.box (.t 1)) (.o 4 (.move (.c (.lit []))) .nil)))) (.seq (.block 0 (.seq (rf (.o 6 (.load (some 1) (.t 2)) (.o 7 (.load (some 17) (.t 3)) (.o 8 (.call 40 [(.t 6), (.t 7)]) (.o 9 (.bin .neq (.t 8) (.i 0)) (.o 5 (.m 9) .nil)))))) (.cond (.t 5) (.seq (rf (.o 4 (.move (.c (.lit []))) .nil)) .ret) (.seq (rf (.o 11 (.fieldAddr 0 (.t 3)) (.o 12 (.load none (.t 11)) (.o 13 (.bin .eql (.t 12) (.i 0)) (.o 10 (.m 13) .nil))))) (.cond (.t 10) (.seq (rf (.o 14 (.fieldAddr 0 (.t 2)) (.o 15 (.load none (.t 14)) (.o 16 (.len false (.t 15)) (.o 17 (.bslice true 1 1 (.int .i64 0) [(0, (.t 16))]) (.o 4 (.m 17) .nil)))))) .ret) .skip))))) (.seq (rf (.o 18 (.fieldAddr 1 (.t 3)) (.o 19 (.load none (.t 18)) (.o 20 (.bslice true 1 1 (.int .i64 0) [(0, (.t 19))]) (.o 4 (.m 20) .nil))))) .ret))), [.tmp 4]⟩
theorem b43 : fnOf Go.Proofs.Tryz.prog (owOf []) 43 = some c43 := by kernel_rfl
def c45 : RFn := ⟨(.seq (rf (.o 2 (.box (.t 0)) (.o 3 (.box (.t 1)) (.o 4 (.move (.c (.bool false))) .nil)))) (.seq (rf (.o 5 (.fieldAddr 0 (.t 3)) (.o 6 (.load none (.t 5)) (.o 7 (.bin .eql (.t 6) (.i 5)) (.o 8 (.m 7) (.grd 8 true (.o 9 (.fieldAddr 3 (.t 3)) (.o 10 (.load none (.t 9)) (.o 11 (.fieldAddr 4 (.t 3)) (.o 12 (.load none (.t 11)) (.o 13 (.bin .eql (.t 10) (.t 12)) .nil))))) (.o 14 (.pick (.t 8) (.t 13) (.c (.bool false))) (.o 15 (.m 14) (.grd 15 true (.o 16 (.load (some 1) (.t 2)) (.o 17 (.load (some 17) (.t 3)) (.o 18 (.call 40 [(.t 16), (.t 17)]) (.o 19 (.bin .eql (.t 18) (.i 0)) .nil)))) (.o 20 (.pick (.t 15) (.t 19) (.c (.bool false))) (.o 4 (.m 20) .nil))))))))))) .ret)), [.tmp 4]⟩
theorem b45 : fnOf Go.Proofs.Tryz.prog (owOf []) 45 = some c45 := by kernel_rfl
def c68 : RFn := ⟨(.seq (rf (.o 1 (.box (.t 0)) (.o 2 (.move (.i 0)) .nil))) (.seq (rf (.o 4 (.fieldAddr 1 (.t 1)) (.o 5 (.load (some 17) (.t 4)) (.o 3 (.alloc (.agg [(.int .i64 0), (.int .i64 0), (.int .i64 0), (.int .i64 0), (.int .i64 0), (.int .i64 0), (.int .i64 0), (.int .i64 0), (.int .i64 0), (.int .i64 0), (.int .i64 0), (.int .i64 0), (.int .i64 0), (.int .i64 0), (.int .i64 0), (.int .i64 0), (.int .i64 0)])) (.op none (.store 17 (.t 3) (.t 5)) 0 .nil))))) (.seq (.seq (rf (.o 6 (.fieldAddr 0 (.t 3)) (.o 7 (.load none (.t 6)) .nil))) (.block 0 (.seq (rf (.o 9 (.bin .eql (.t 7) (.i 1)) (.o 8 (.m 9) .nil))) (.cond (.t 8) (.seq (rf (.o 10 (.mkfunc 94 [(.t 1), (.t 3)]) (.o 11 (.build [(.int .i64 0), .nilf] [(0, 1, (.i 8)), (1, 1, (.t 10))]) (.o 12 (.bslice false 2 1 (.agg [(.int .i64 0), .nilf]) [(0, (.t 11))]) (.o 13 (.call 91 [(.t 12)]) (.o 2 (.m 13) .nil)))))) .ret) (.seq (rf (.o 15 (.bin .eql (.t 7) (.i 2)) (.o 14 (.m 15) .nil))) (.cond (.t 14) (.seq (rf (.o 16 (.load (some 18) (.t 1)) (.o 17 (.fieldAddr 2 (.t 3)) (.o 18 (.load none (.t 17)) (.o 19 (.bslice false 1 1 (.int .i64 0) [(0, (.t 18))]) (.o 20 (.call 95 [(.t 16), (.t 19)]) (.o 21 (.mkfunc 96 [(.t 3)]) (.o 22 (.build [(.int .i64 0), .nilf] [(0, 1, (.i 6)), (1, 1, (.t 21))]) (.o 23 (.bslice false 2 2 (.agg [(.int .i64 0), .nilf]) [(0, (.t 20)), (1, (.t 22))]) (.o 24 (.call 91 [(.t 23)]) (.o 2 (.m 24) .nil))))))))))) .ret) (.seq (rf (.o 26 (.bin .eql (.t 7) (.i 3)) (.o 25 (.m 26) .nil))) (.cond (.t 25) (.seq (rf (.o 27 (.load (some 18) (.t 1)) (.o 28 (.fieldAddr 2 (.t 3)) (.o 29 (.load none (.t 28)) (.o 30 (.fieldAddr 3 (.t 3)) (.o 31 (.load none (.t 30)) (.o 32 (.bslice false 1 2 (.int .i64 0) [(0, (.t 29)), (1, (.t 31))]) (.o 33 (.call 95 [(.t 27), (.t 32)]) (.o 34 (.mkfunc 97 [(.t 1), (.t 3)]) (.o 35 (.build [(.int .i64 0), .nilf] [(0, 1, (.i 5)), (1, 1, (.t 34))]) (.o 36 (.bslice false 2 2 (.agg [(.int .i64 0), .nilf]) [(0, (.t 33)), (1, (.t 35))]) (.o 37 (.call 91 [(.t 36)]) (.o 2 (.m 37) .nil))))))))))))) .ret) (.seq (rf (.o 39 (.bin .eql (.t 7) (.i 4)) (.o 38 (.m 39) .nil))) (.cond (.t 38) (.seq (rf (.o 40 (.load (some 18) (.t 1)) (.o 41 (.fieldAddr 2 (.t 3)) (.o 42 (.load none (.t 41)) (.o 43 (.fieldAddr 3 (.t 3)) (.o 44 (.load none (.t 43)) (.o 45 (.bslice false 1 2 (.int .i64 0) [(0, (.t 42)), (1, (.t 44))]) (.o 46 (.call 95 [(.t 40), (.t 45)]) (.o 47 (.mkfunc 99 [(.t 1), (.t 3)]) (.o 48 (.build [(.int .i64 0), .nilf] [(0, 1, (.i 5)), (1, 1, (.t 47))]) (.o 49 (.bslice false 2 2 (.agg [(.int .i64 0), .nilf]) [(0, (.t 46)), (1, (.t 48))]) (.o 50 (.call 91 [(.t 49)]) (.o 2 (.m 50) .nil))))))))))))) .ret) (.seq (rf (.o 52 (.bin .eql (.t 7) (.i 5)) (.o 51 (.m 52) .nil))) (.cond (.t 51) (.seq (rf (.o 53 (.load (some 18) (.t 1)) (.o 54 (.fieldAddr 2 (.t 3)) (.o 55 (.load none (.t 54)) (.o 56 (.fieldAddr 3 (.t 3)) (.o 57 (.load none (.t 56)) (.o 58 (.fieldAddr 4 (.t 3)) (.o 59 (.load none (.t 58)) (.o 60 (.bslice false 1 3 (.int .i64 0) [(0, (.t 55)), (1, (.t 57)), (2, (.t 59))]) (.o 61 (.call 95 [(.t 53), (.t 60)]) (.o 62 (.mkfunc 100 [(.t 1), (.t 3)]) (.o 63 (.build [(.int .i64 0), .nilf] [(0, 1, (.i 5)), (1, 1, (.t 62))]) (.o 64 (.bslice false 2 2 (.agg [(.int .i64 0), .nilf]) [(0, (.t 61)), (1, (.t 63))]) (.o 65 (.call 91 [(.t 64)]) (.o 2 (.m 65) .nil))))))))))))))) .ret) (.seq (rf (.o 67 (.bin .eql (.t 7) (.i 6)) (.o 66 (.m 67) .nil))) (.cond (.t 66) (.seq (rf (.o 68 (.load (some 18) (.t 1)) (.o 69 (.call 101 [(.t 68)]) (.o 2 (.m 69) .nil)))) .ret) .skip)))))))))))))) (.seq (rf (.o 70 (.load (some 18) (.t 1)) (.o 71 (.fieldAddr 2 (.t 3)) (.o 72 (.load none (.t 71)) (.o 73 (.bslice false 1 1 (.int .i64 0) [(0, (.t 72))]) (.o 74 (.call 95 [(.t 70), (.t 73)]) (.o 75 (.mkfunc 102 [(.t 3), (.t 1)]) (.o 76 (.build [(.int .i64 0), .nilf] [(0, 1, (.i 3)), (1, 1, (.t 75))]) (.o 77 (.bslice false 2 2 (.agg [(.int .i64 0), .nilf]) [(0, (.t 74)), (1, (.t 76))]) (.o 78 (.call 91 [(.t 77)]) (.o 2 (.m 78) .nil))))))))))) .ret)))), [.tmp 2]⟩
theorem b68 : fnOf Go.Proofs.Tryz.prog (owOf [(4, 2), (6, 3), (6, 7), (8, 5), (8, 9), (10, 5), (10, 9), (12, 7), (12, 11), (15, 3), (15, 7)]) 68 = some c68 := by kernel_rfl
def c94 : RFn := ⟨(.seq (rf (.o 2 (.move (.c (.bool false))) .nil)) (.seq (rf (.o 3 (.fieldAddr 0 (.t 0)) (.o 4 (.load (some 1) (.t 3)) (.o 5 (.fieldAddr 1 (.t 1)) (.o 6 (.load none (.t 5)) (.o 7 (.call 37 [(.t 4), (.t 6)]) (.o 8 (.bin .lss (.t 7) (.i 0)) (.o 2 (.m 8) .nil)))))))) .ret)), [.tmp 2]⟩
theorem b94 : fnOf Go.Proofs.Tryz.prog (owOf []) 94 = some c94 := by kernel_rfl
def c96 : RFn := ⟨(.seq (rf (.o 1 (.move (.c (.bool false))) .nil)) (.seq (rf (.o 2 (.fieldAddr 2 (.t 0)) (.o 3 (.load none (.t 2)) (.o 4 (.bin .eql (.t 3) (.i 0)) (.o 1 (.m 4) .nil))))) .ret)), [.tmp 1]⟩
theorem b96 : fnOf Go.Proofs.Tryz.prog (owOf []) 96 = some c96 := by kernel_rfl
def c97 : RFn := ⟨(.seq (rf (.o 2 (.move (.c (.bool false))) .nil)) (.seq (rf (.o 3 (.load (some 18) (.t 0)) (.o 4 (.fieldAddr 3 (.t 1)) (.o 5 (.load none (.t 4)) (.o 6 (.call 98 [(.t 3), (.t 5)]) (.o 2 (.m 6) .nil)))))) .ret)), [.tmp 2]⟩
theorem b97 : fnOf Go.Proofs.Tryz.prog (owOf []) 97 = some c97 := by kernel_rfl
def c99 : RFn := ⟨(.seq (rf (.o 2 (.move (.c (.bool false))) .nil)) (.seq (rf (.o 3 (.load (some 18) (.t 0)) (.o 4 (.fieldAddr 3 (.t 1)) (.o 5 (.load none (.t 4)) (.o 6 (.call 98 [(.t 3), (.t 5)]) (.o 7 (.un .not (.t 6)) (.o 2 (.m 7) .nil))))))) .ret)), [.tmp 2]⟩
theorem b99 : fnOf Go.Proofs.Tryz.prog (owOf []) 99 = some c99 := by kernel_rfl
def c100 : RFn := ⟨(.seq (rf (.o 2 (.move (.c (.bool false))) .nil)) (.seq (rf (.o 3 (.load (some 18) (.t 0)) (.o 4 (.fieldAddr 3 (.t 1)) (.o 5 (.load none (.t 4)) (.o 6 (.call 98 [(.t 3), (.t 5)]) (.o 7 (.un .not (.t 6)) (.o 8 (.m 7) (.grd 8 false (.o 9 (.fieldAddr 4 (.t 1)) (.o 10 (.load none (.t 9)) (.o 11 (.fieldAddr 3 (.t 1)) (.o 12 (.load none (.t 11)) (.o 13 (.bin .neq (.t 10) (.t 12)) (.o 14 (.m 13) (.grd 14 true (.o 15 (.load (some 18) (.t 0)) (.o 16 (.fieldAddr 4 (.t 1)) (.o 17 (.load none (.t 16)) (.o 18 (.call 98 [(.t 15), (.t 17)]) .nil)))) (.o 19 (.pick (.t 14) (.t 18) (.c (.bool false))) .nil)))))))) (.o 20 (.pick (.t 8) (.c (.bool true)) (.t 19)) (.o 2 (.m 20) .nil)))))))))) .ret)), [.tmp 2]⟩
theorem b100 : fnOf Go.Proofs.Tryz.prog (owOf []) 100 = some c100 := by kernel_rfl
def c101 : RFn := ⟨(.seq (rf (.o 1 (.box (.t 0)) (.o 2 (.move (.i 0)) .nil))) (.seq (rf (.o 5 (.fieldAddr 1 (.t 1)) (.o 6 (.fieldAddr 6 (.t 5)) (.o 7 (.load (some 11) (.t 6)) (.o 3 (.alloc (.agg [(.int .i64 0), (.int .i64 0), (.int .i64 0), (.int .i64 0), (.int .i64 0), (.int .i64 0), (.int .i64 0), (.int .i64 0), (.int .i64 0), (.int .i64 0), (.int .i64 0)])) (.op none (.store 11 (.t 3) (.t 7)) 0 .nil)))))) (.seq (rf (.o 8 (.fieldAddr 1 (.t 3)) (.o 9 (.load none (.t 8)) (.o 10 (.bin .eql (.t 9) (.i 7)) (.o 4 (.alloc (.bool false)) (.op none (.store 1 (.t 4) (.t 10)) 0 .nil)))))) (.seq (rf (.o 11 (.load (some 18) (.t 1)) (.o 12 (.fieldAddr 1 (.t 1)) (.o 13 (.fieldAddr 2 (.t 12)) (.o 14 (.load none (.t 13)) (.o 15 (.bslice false 1 1 (.int .i64 0) [(0, (.t 14))]) (.o 16 (.call 95 [(.t 11), (.t 15)]) (.o 17 (.mkfunc 132 [(.t 1)]) (.o 18 (.build [(.int .i64 0), .nilf] [(0, 1, (.i 3)), (1, 1, (.t 17))]) (.o 19 (.mkfunc 133 [(.t 3)]) (.o 20 (.build [(.int .i64 0), .nilf] [(0, 1, (.i 9)), (1, 1, (.t 19))]) (.o 21 (.mkfunc 134 [(.t 3), (.t 1)]) (.o 22 (.build [(.int .i64 0), .nilf] [(0, 1, (.i 4)), (1, 1, (.t 21))]) (.o 23 (.mkfunc 136 [(.t 4), (.t 3), (.t 1)]) (.o 24 (.build [(.int .i64 0), .nilf] [(0, 1, (.i 1)), (1, 1, (.t 23))]) (.o 25 (.mkfunc 137 [(.t 4), (.t 1), (.t 3)]) (.o 26 (.build [(.int .i64 0), .nilf] [(0, 1, (.i 7)), (1, 1, (.t 25))]) (.o 27 (.mkfunc 138 [(.t 1)]) (.o 28 (.build [(.int .i64 0), .nilf] [(0, 1, (.i 8)), (1, 1, (.t 27))]) (.o 29 (.bslice false 2 7 (.agg [(.int .i64 0), .nilf]) [(0, (.t 16)), (1, (.t 18)), (2, (.t 20)), (3, (.t 22)), (4, (.t 24)), (5, (.t 26)), (6, (.t 28))]) (.o 30 (.call 91 [(.t 29)]) (.o 2 (.m 30) .nil)))))))))))))))))))))) .ret)))), [.tmp 2]⟩
theorem b101 : fnOf Go.Proofs.Tryz.prog (owOf [(3, 4), (3, 18)]) 101 = some c101 := by kernel_rfl
def c102 : RFn := ⟨(.seq (rf (.o 2 (.move (.c (.bool false))) .nil)) (.seq (rt (.o 3 (.fieldAddr 5 (.t 0)) (.op (some 4) (.load none (.t 3)) 1 (.op (some 5) (.bin .lss (.t 4) (.i 0)) 3 (.op (some 6) (.m 5) 7 (.grd 6 false (.op (some 7) (.fieldAddr 5 (.t 0)) 15 (.op (some 8) (.load none (.t 7)) 31 (.op (some 9) (.load (some 18) (.t 1)) 15 (.op (some 10) (.call 103 [(.t 9)]) 79 (.op (some 11) (.len false (.t 10)) 207 (.op (some 12) (.bin .geq (.t 8) (.t 11)) 511 .nil)))))) (.op (some 13) (.pick (.t 6) (.c (.bool true)) (.t 12)) 1023 (.op (some 2) (.m 13) 2047 .nil)))))))) .ret)), [.tmp 2]⟩
theorem b102 : fnOf Go.Proofs.Tryz.prog (owOf []) 102 = some c102 := by kernel_rfl
def c132 : RFn := ⟨(.seq (rf (.o 1 (.move (.c (.bool false))) .nil)) (.seq (rt (.o 2 (.fieldAddr 1 (.t 0)) (.op (some 3) (.fieldAddr 5 (.t 2)) 1 (.op (some 4) (.load none (.t 3)) 3 (.op (some 5) (.bin .lss (.t 4) (.i 0)) 7 (.op (some 6) (.m 5) 15 (.grd 6 false (.op (some 7) (.fieldAddr 1 (.t 0)) 31 (.op (some 8) (.fieldAddr 5 (.t 7)) 63 (.op (some 9) (.load none (.t 8)) 127 (.op (some 10) (.load (some 18) (.t 0)) 31 (.op (some 11) (.call 103 [(.t 10)]) 287 (.op (some 12) (.len false (.t 11)) 799 (.op (some 13) (.bin .gtr (.t 9) (.t 12)) 2047 .nil))))))) (.op (some 14) (.pick (.t 6) (.c (.bool true)) (.t 13)) 4095 (.op (some 1) (.m 14) 8191 .nil))))))))) .ret)), [.tmp 1]⟩
theorem b132 : fnOf Go.Proofs.Tryz.prog (owOf []) 132 = some c132 := by kernel_rfl
def c133 : RFn := ⟨(.seq (rf (.o 1 (.move (.c (.bool false))) .nil)) (.seq (rf (.o 2 (.fieldAddr 0 (.t 0)) (.o 3 (.load none (.t 2)) (.o 4 (.bin .neq (.t 3) (.i 0)) (.o 5 (.m 4) (.grd 5 false (.o 6 (.load (some 11) (.t 0)) (.o 7 (.call 41 [(.t 6)]) (.o 8 (.un .not (.t 7)) .nil))) (.o 9 (.pick (.t 5) (.c (.bool true)) (.t 8)) (.o 1 (.m 9) .nil)))))))) .ret)), [.tmp 1]⟩
theorem b133 : fnOf Go.Proofs.Tryz.prog (owOf []) 133 = some c133 := by kernel_rfl
def c134 : RFn := ⟨(.seq (rf (.o 2 (.move (.c (.bool false))) .nil)) (.seq (rf (.o 3 (.load (some 11) (.t 0)) (.o 4 (.call 17 [(.t 3)]) (.o 5 (.mkfunc 135 [(.t 1)]) (.o 6 (.call 130 [(.t 4), (.t 5)]) (.o 2 (.m 6) .nil)))))) .ret)), [.tmp 2]⟩
theorem b134 : fnOf Go.Proofs.Tryz.prog (owOf []) 134 = some c134 := by kernel_rfl
def c135 : RFn := ⟨(.seq (rf (.o 3 (.move (.c (.bool false))) .nil)) (.seq (rf (.o 4 (.m 0) (.o 5 (.fieldAddr 0 (.t 1)) (.o 6 (.fieldAddr 0 (.t 5)) (.o 7 (.load none (.t 6)) (.o 8 (.fieldAddr 1 (.t 1)) (.o 9 (.fieldAddr 1 (.t 8)) (.o 10 (.load none (.t 9)) (.o 11 (.idxAddr 3 (.t 7) (.t 10)) (.o 12 (.fieldAddr 1 (.t 11)) (.o 13 (.load none (.t 12)) (.o 14 (.bin .geq (.t 4) (.t 13)) (.o 3 (.m 14) .nil))))))))))))) .ret)), [.tmp 3]⟩
theorem b135 : fnOf Go.Proofs.Tryz.prog (owOf []) 135 = some c135 := by kernel_rfl
def c136 : RFn := ⟨(.seq (rf (.o 3 (.move (.c (.bool false))) .nil)) (.seq (rf (.o 4 (.load none (.t 0)) (.o 5 (.m 4) (.grd 5 true (.o 6 (.fieldAddr 6 (.t 1)) (.o 7 (.load none (.t 6)) (.o 8 (.fieldAddr 0 (.t 2)) (.o 9 (.fieldAddr 0 (.t 8)) (.o 10 (.load none (.t 9)) (.o 11 (.len false (.t 10)) (.o 12 (.bin .geq (.t 7) (.t 11)) .nil))))))) (.o 13 (.pick (.t 5) (.t 12) (.c (.bool false))) (.o 3 (.m 13) .nil)))))) .ret)), [.tmp 3]⟩
theorem b136 : fnOf Go.Proofs.Tryz.prog (owOf []) 136 = some c136 := by kernel_rfl
def c137 : RFn := ⟨(.seq (rf (.o 3 (.move (.c (.bool false))) .nil)) (.seq (rt (.o 4 (.load none (.t 0)) (.op (some 5) (.m 4) 1 (.grd 5 true (.op (some 6) (.fieldAddr 0 (.t 1)) 3 (.op (some 7) (.fieldAddr 0 (.t 6)) 7 (.op (some 8) (.load none (.t 7)) 15 (.op (some 9) (.fieldAddr 6 (.t 2)) 3 (.op (some 10) (.load none (.t 9)) 35 (.op (some 11) (.idxAddr 3 (.t 8) (.t 10)) 127 (.op (some 12) (.fieldAddr 0 (.t 11)) 255 (.op (some 13) (.load none (.t 12)) 511 (.op (some 14) (.fieldAddr 7 (.t 2)) 3 (.op (some 15) (.load none (.t 14)) 1027 (.op (some 16) (.bin .neq (.t 13) (.t 15)) 4095 .nil))))))))))) (.op (some 17) (.pick (.t 5) (.t 16) (.c (.bool false))) 8191 (.op (some 3) (.m 17) 16383 .nil)))))) .ret)), [.tmp 3]⟩
theorem b137 : fnOf Go.Proofs.Tryz.prog (owOf []) 137 = some c137 := by kernel_rfl
def c138 : RFn := ⟨(.seq (rf (.o 1 (.move (.c (.bool false))) .nil)) (.seq (rf (.o 2 (.load (some 18) (.t 0)) (.o 3 (.call 103 [(.t 2)]) (.o 4 (.len false (.t 3)) (.o 5 (.bin .geq (.t 4) (.i 16)) (.o 6 (.m 5) (.grd 6 false (.o 7 (.fieldAddr 0 (.t 0)) (.o 8 (.load (some 1) (.t 7)) (.o 9 (.call 35 [(.t 8)]) (.o 10 (.bin .lss (.t 9) (.i 0)) .nil)))) (.o 11 (.pick (.t 6) (.c (.bool true)) (.t 10)) (.o 1 (.m 11) .nil))))))))) .ret)), [.tmp 1]⟩
theorem b138 : fnOf Go.Proofs.Tryz.prog (owOf []) 138 = some c138 := by kernel_rfl
end Go.Vm
end
section
/- Walks. -/
set_option maxRecDepth 100000
set_option linter.unusedSimpArgs false
set_option linter.unusedVariables false
namespace Go.Vm
open Go
set_option maxHeartbeats 4000000
theorem p_ins1 (p : List Fn) (e : Ed) (hp : Fit p) : Pure Go.Proofs.Tryz.prog glD 132 [.fptr (cA p e)] (.bool (decide (e.pos < 0) || decide (e.pos > ((codeV p e.f e.b).length : Nat)))) := by
  have hc := p_code p e hp
  refine Pure.fn hmix b132 ?_
  repeat' first | (with_reducible first | refine tr_seq ?_ | refine n_nil ?_ | refine seqQ_normal ?_ | refine seqQ_ret ?_ | refine blkQ_ret ?_ | refine tr_ret ?_) | ((with_reducible refine tr_region_f ?_ ?_); kernel_rfl) | ((with_reducible refine tr_region_t ?_ ?_ ?_); kernel_rfl; kernel_rfl) | exact ⟨rfl, rfl⟩ | ((with_reducible apply n_and); rfl; rfl; intro h) | ((with_reducible apply n_or); rfl; rfl; intro h) | ((with_reducible apply n_call (f := 103)); rfl; rfl; exact hc) | ((with_reducible apply n_val); rfl; rfl) | ((with_reducible apply fnQ_told_ret); rfl) | ((with_reducible apply fnQ_ret_soft); rfl; rfl)
  rw [List.length_map]
theorem p_ins2 (i : In) : Pure Go.Proofs.Tryz.prog glD 133 [.fptr (cI i)] (.bool (i.id != 0 || !form i)) := by
  refine Pure.fn hmix b133 ?_
  repeat' first | (with_reducible first | refine tr_seq ?_ | refine n_nil ?_ | refine seqQ_normal ?_ | refine seqQ_ret ?_ | refine blkQ_ret ?_ | refine tr_ret ?_) | ((with_reducible refine tr_region_f ?_ ?_); kernel_rfl) | exact ⟨rfl, rfl⟩ | ((with_reducible apply n_and); rfl; rfl; intro h) | ((with_reducible apply n_or); rfl; rfl; intro h) | ((with_reducible apply n_val); rfl; rfl) | ((with_reducible apply n_call (f := 41)); rfl; rfl; exact p_Form i) | ((with_reducible apply fnQ_told_ret); rfl) | ((with_reducible apply fnQ_ret_soft); rfl; rfl)
  rfl
theorem p_ins31 {gl : Nat → Option PV} (p : List Fn) (e : Ed) (v : Int) (h : 0 ≤ e.f ∧ e.f < (p.length : Nat)) : Pure Go.Proofs.Tryz.prog gl 135 [.int .i64 v, .fptr (cA p e)] (.bool (decide (v ≥ (p.getD e.f.toNat F0).vs))) := by
  refine Pure.fn hmix b135 ?_
  repeat' first | (with_reducible first | refine tr_seq ?_ | refine n_nil ?_ | refine seqQ_normal ?_ | refine seqQ_ret ?_ | refine blkQ_ret ?_ | refine tr_ret ?_) | ((with_reducible refine tr_region_f ?_ ?_); kernel_rfl) | ((with_reducible apply n_idx_vals F0); rfl; rfl; exact (fun _ => rfl); (first | omega | decide | (simp only [zz] at *; omega))) | ((with_reducible apply n_val); rfl; rfl) | ((with_reducible apply fnQ_told_ret); rfl) | ((with_reducible apply fnQ_ret_soft); rfl; rfl)
  rfl
theorem p_ins3 (p : List Fn) (e : Ed) (i : In) (h : 0 ≤ e.f ∧ e.f < (p.length : Nat)) : Pure Go.Proofs.Tryz.prog glD 134 [.fptr (cI i), .fptr (cA p e)] (.bool ((varsI i).any fun v => decide (v ≥ (p.getD e.f.toNat F0).vs))) := by
  have hC := p_ctnF (gl := glD) (varsI i) 135 [.fptr (cA p e)] (fun v => decide (v ≥ (p.getD e.f.toNat F0).vs)) (vars_len5 i) rfl (fun j _ => p_ins31 p e _ h)
  refine Pure.fn hmix b134 ?_
  repeat' first | (with_reducible first | refine tr_seq ?_ | refine n_nil ?_ | refine seqQ_normal ?_ | refine seqQ_ret ?_ | refine blkQ_ret ?_ | refine tr_ret ?_) | ((with_reducible refine tr_region_f ?_ ?_); kernel_rfl) | ((with_reducible apply n_val); rfl; rfl) | ((with_reducible apply n_call (f := 17)); rfl; rfl; exact p_Vars i) | ((with_reducible apply n_callb ); rfl; rfl; exact hC; rfl) | ((with_reducible apply fnQ_told_ret); rfl) | ((with_reducible apply fnQ_ret_soft); rfl; rfl)
  rfl
theorem p_ins4 {gl : Nat → Option PV} (p : List Fn) (e : Ed) (i : In) (c : Bool) : Pure Go.Proofs.Tryz.prog gl 136 [.fptr [.bool c], .fptr (cI i), .fptr (cA p e)] (.bool (c && decide (i.f ≥ (p.length : Nat)))) := by
  refine Pure.fn hmix b136 ?_
  repeat' first | (with_reducible first | refine tr_seq ?_ | refine n_nil ?_ | refine seqQ_normal ?_ | refine seqQ_ret ?_ | refine blkQ_ret ?_ | refine tr_ret ?_) | ((with_reducible refine tr_region_f ?_ ?_); kernel_rfl) | exact ⟨rfl, rfl⟩ | ((with_reducible apply n_and); rfl; rfl; intro h) | ((with_reducible apply n_or); rfl; rfl; intro h) | ((with_reducible apply n_val); rfl; rfl) | ((with_reducible apply fnQ_told_ret); rfl) | ((with_reducible apply fnQ_ret_soft); rfl; rfl)
  rw [List.length_map]
theorem p_ins5 {gl : Nat → Option PV} (p : List Fn) (e : Ed) (i : In) (c : Bool) (h : c = true → 0 ≤ i.f ∧ i.f < (p.length : Nat)) : Pure Go.Proofs.Tryz.prog gl 137 [.fptr [.bool c], .fptr (cA p e), .fptr (cI i)] (.bool (c && (p.getD i.f.toNat F0).ar != i.n)) := by
  have hc := h
  refine Pure.fn hmix b137 ?_
  repeat' first | (with_reducible first | refine tr_seq ?_ | refine n_nil ?_ | refine seqQ_normal ?_ | refine seqQ_ret ?_ | refine blkQ_ret ?_ | refine tr_ret ?_) | ((with_reducible refine tr_region_f ?_ ?_); kernel_rfl) | ((with_reducible refine tr_region_t ?_ ?_ ?_); kernel_rfl; kernel_rfl) | exact ⟨rfl, rfl⟩ | ((with_reducible apply n_and); rfl; rfl; intro h) | ((with_reducible apply n_or); rfl; rfl; intro h) | ((with_reducible apply n_idx_vals F0); rfl; rfl; exact (fun _ => rfl); exact hc (by assumption)) | ((with_reducible apply n_val); rfl; rfl) | ((with_reducible apply fnQ_told_ret); rfl) | ((with_reducible apply fnQ_ret_soft); rfl; rfl)
  rfl
theorem p_ins6 (p : List Fn) (e : Ed) (hp : Fit p) : Pure Go.Proofs.Tryz.prog glD 138 [.fptr (cA p e)] (.bool (decide (((codeV p e.f e.b).length : Int) ≥ 16) || decide (newIdV p < 0))) := by
  have hc := p_code p e hp
  have hn := p_NewId p hp
  refine Pure.fn hmix b138 ?_
  repeat' first | (with_reducible first | refine tr_seq ?_ | refine n_nil ?_ | refine seqQ_normal ?_ | refine seqQ_ret ?_ | refine blkQ_ret ?_ | refine tr_ret ?_) | ((with_reducible refine tr_region_f ?_ ?_); kernel_rfl) | exact ⟨rfl, rfl⟩ | ((with_reducible apply n_and); rfl; rfl; intro h) | ((with_reducible apply n_or); rfl; rfl; intro h) | ((with_reducible apply n_call (f := 103)); rfl; rfl; exact hc) | ((with_reducible apply n_call (f := 35)); rfl; rfl; exact hn) | ((with_reducible apply n_val); rfl; rfl) | ((with_reducible apply fnQ_told_ret); rfl) | ((with_reducible apply fnQ_ret_soft); rfl; rfl)
  rw [List.length_map]
theorem p_insert (p : List Fn) (e : Ed) (hf : few p = true) (h : 0 ≤ e.f ∧ e.f < (p.length : Nat)) : Pure Go.Proofs.Tryz.prog glD 101 [pA p e] (.int .i64 (insV p e)) := by
  have hp := few_fit hf
  have hb := p_blk p e [e.b]
  have hr := p_first (gl := glD) [⟨2, 129, [.fptr [.sl (ints [e.b])], .fptr (cA p e)], noB p e.f [e.b]⟩,
    ⟨3, 132, [.fptr (cA p e)], decide (e.pos < 0) || decide (e.pos > ((codeV p e.f e.b).length : Nat))⟩,
    ⟨9, 133, [.fptr (cI e.i)], e.i.id != 0 || !form e.i⟩,
    ⟨4, 134, [.fptr (cI e.i), .fptr (cA p e)], (varsI e.i).any fun v => decide (v ≥ (p.getD e.f.toNat F0).vs)⟩,
    ⟨1, 136, [.fptr [.bool (e.i.kind == 7)], .fptr (cI e.i), .fptr (cA p e)], e.i.kind == 7 && decide (e.i.f ≥ (p.length : Nat))⟩,
    ⟨7, 137, [.fptr [.bool (e.i.kind == 7)], .fptr (cA p e), .fptr (cI e.i)], e.i.kind == 7 && (p.getD e.i.f.toNat F0).ar != e.i.n⟩,
    ⟨8, 138, [.fptr (cA p e)], decide (((codeV p e.f e.b).length : Int) ≥ 16) || decide (newIdV p < 0)⟩] (by simp)
    ⟨rfl, p_blk1 p e [e.b] (by simp) hp, fun _ => ⟨rfl, p_ins1 p e hp, fun _ => ⟨rfl, p_ins2 e.i, fun q2 => ⟨rfl, p_ins3 p e e.i h, fun _ => ⟨rfl, p_ins4 p e e.i _, fun q4 => ⟨rfl, p_ins5 p e e.i _ (fun hk => by
      have q2' : (e.i.id != 0 || !form e.i) = false := q2
      have q4' : (e.i.kind == 7 && decide (e.i.f ≥ (p.length : Nat))) = false := q4
      rw [hk, Bool.true_and, decide_eq_false_iff_not] at q4'
      simp only [Bool.or_eq_false_iff, Bool.not_eq_false'] at q2'
      exact ⟨form_call q2'.2 (by simpa using hk), by omega⟩), fun _ => ⟨rfl, p_ins6 p e hp, fun _ => trivial⟩⟩⟩⟩⟩⟩⟩
  refine Pure.fn hmix b101 ?_
  repeat' first | (with_reducible first | refine tr_seq ?_ | refine n_nil ?_ | refine seqQ_normal ?_ | refine seqQ_ret ?_ | refine blkQ_ret ?_ | refine tr_ret ?_) | ((with_reducible refine tr_region_f ?_ ?_); kernel_rfl) | ((with_reducible apply n_call (f := 95)); rfl; rfl; exact hb) | ((with_reducible apply n_callb (f := 91)); rfl; rfl; exact hr; rfl) | ((with_reducible apply n_val); rfl; rfl) | ((with_reducible apply n_new); rfl; (first | (simp only [hn0, hn1, hn2, hn3, hn4, hn5, List.length_cons, List.length_nil, Nat.reduceAdd, Nat.zero_add]; first | done | rfl) | rfl); rfl) | ((with_reducible apply n_store); rfl; rfl; rfl; rfl; rfl) | ((with_reducible apply fnQ_told_ret); rfl) | ((with_reducible apply fnQ_ret_soft); rfl; rfl)
  rfl
theorem p_oth1 (p : List Fn) (e : Ed) (hp : Fit p) : Pure Go.Proofs.Tryz.prog glD 94 [.fptr (cA p e), .fptr (cE e)] (.bool (decide (newBlockV p e.f < 0))) := by
  have hn := p_NewBlock p e.f hp
  refine Pure.fn hmix b94 ?_
  repeat' first | (with_reducible first | refine tr_seq ?_ | refine n_nil ?_ | refine seqQ_normal ?_ | refine seqQ_ret ?_ | refine blkQ_ret ?_ | refine tr_ret ?_) | ((with_reducible refine tr_region_f ?_ ?_); kernel_rfl) | ((with_reducible apply n_call (f := 37)); rfl; rfl; exact hn) | ((with_reducible apply n_val); rfl; rfl) | ((with_reducible apply fnQ_told_ret); rfl) | ((with_reducible apply fnQ_ret_soft); rfl; rfl)
  rfl
theorem p_oth2 {gl : Nat → Option PV} (e : Ed) : Pure Go.Proofs.Tryz.prog gl 96 [.fptr (cE e)] (.bool (e.b == 0)) := by
  refine Pure.fn hmix b96 ?_
  repeat' first | (with_reducible first | refine tr_seq ?_ | refine n_nil ?_ | refine seqQ_normal ?_ | refine seqQ_ret ?_ | refine blkQ_ret ?_ | refine tr_ret ?_) | ((with_reducible refine tr_region_f ?_ ?_); kernel_rfl) | ((with_reducible apply n_val); rfl; rfl) | ((with_reducible apply fnQ_told_ret); rfl) | ((with_reducible apply fnQ_ret_soft); rfl; rfl)
  rfl
theorem p_oth3 (p : List Fn) (e : Ed) (hf : few p = true) : Pure Go.Proofs.Tryz.prog glD 97 [.fptr (cA p e), .fptr (cE e)] (.bool (edgV p e.f e.b e.to)) := by
  have hn := p_edge p e e.to hf
  refine Pure.fn hmix b97 ?_
  repeat' first | (with_reducible first | refine tr_seq ?_ | refine n_nil ?_ | refine seqQ_normal ?_ | refine seqQ_ret ?_ | refine blkQ_ret ?_ | refine tr_ret ?_) | ((with_reducible refine tr_region_f ?_ ?_); kernel_rfl) | ((with_reducible apply n_call (f := 98)); rfl; rfl; exact hn) | ((with_reducible apply n_val); rfl; rfl) | ((with_reducible apply fnQ_told_ret); rfl) | ((with_reducible apply fnQ_ret_soft); rfl; rfl)
  rfl
theorem p_oth4 (p : List Fn) (e : Ed) (hf : few p = true) : Pure Go.Proofs.Tryz.prog glD 99 [.fptr (cA p e), .fptr (cE e)] (.bool (!edgV p e.f e.b e.to)) := by
  have hn := p_edge p e e.to hf
  refine Pure.fn hmix b99 ?_
  repeat' first | (with_reducible first | refine tr_seq ?_ | refine n_nil ?_ | refine seqQ_normal ?_ | refine seqQ_ret ?_ | refine blkQ_ret ?_ | refine tr_ret ?_) | ((with_reducible refine tr_region_f ?_ ?_); kernel_rfl) | ((with_reducible apply n_call (f := 98)); rfl; rfl; exact hn) | ((with_reducible apply n_val); rfl; rfl) | ((with_reducible apply fnQ_told_ret); rfl) | ((with_reducible apply fnQ_ret_soft); rfl; rfl)
  rfl
theorem p_oth5 (p : List Fn) (e : Ed) (hf : few p = true) : Pure Go.Proofs.Tryz.prog glD 100 [.fptr (cA p e), .fptr (cE e)] (.bool (!edgV p e.f e.b e.to || (e.ot != e.to && edgV p e.f e.b e.ot))) := by
  have hn := p_edge p e e.to hf
  have hn2 := p_edge p e e.ot hf
  refine Pure.fn hmix b100 ?_
  repeat' first | (with_reducible first | refine tr_seq ?_ | refine n_nil ?_ | refine seqQ_normal ?_ | refine seqQ_ret ?_ | refine blkQ_ret ?_ | refine tr_ret ?_) | ((with_reducible refine tr_region_f ?_ ?_); kernel_rfl) | exact ⟨rfl, rfl⟩ | ((with_reducible apply n_and); rfl; rfl; intro h) | ((with_reducible apply n_or); rfl; rfl; intro h) | ((with_reducible apply n_call (f := 98)); rfl; rfl; exact hn) | ((with_reducible apply n_call (f := 98)); rfl; rfl; exact hn2) | ((with_reducible apply n_val); rfl; rfl) | ((with_reducible apply fnQ_told_ret); rfl) | ((with_reducible apply fnQ_ret_soft); rfl; rfl)
  rfl
theorem p_oth6 (p : List Fn) (e : Ed) (hp : Fit p) : Pure Go.Proofs.Tryz.prog glD 102 [.fptr (cE e), .fptr (cA p e)] (.bool (decide (e.pos < 0) || decide (e.pos ≥ ((codeV p e.f e.b).length : Nat)))) := by
  have hc := p_code p e hp
  refine Pure.fn hmix b102 ?_
  repeat' first | (with_reducible first | refine tr_seq ?_ | refine n_nil ?_ | refine seqQ_normal ?_ | refine seqQ_ret ?_ | refine blkQ_ret ?_ | refine tr_ret ?_) | ((with_reducible refine tr_region_f ?_ ?_); kernel_rfl) | ((with_reducible refine tr_region_t ?_ ?_ ?_); kernel_rfl; kernel_rfl) | exact ⟨rfl, rfl⟩ | ((with_reducible apply n_and); rfl; rfl; intro h) | ((with_reducible apply n_or); rfl; rfl; intro h) | ((with_reducible apply n_call (f := 103)); rfl; rfl; exact hc) | ((with_reducible apply n_val); rfl; rfl) | ((with_reducible apply fnQ_told_ret); rfl) | ((with_reducible apply fnQ_ret_soft); rfl; rfl)
  rw [List.length_map]
theorem p_other (p : List Fn) (e : Ed) (hf : few p = true) (h : 0 ≤ e.f ∧ e.f < (p.length : Nat)) : Pure Go.Proofs.Tryz.prog glD 68 [pA p e] (.int .i64 (othV p e)) := by
  have hp := few_fit hf
  have hins := p_insert p e hf h
  have hb1 := p_blk p e [e.b]
  have hb2 := p_blk p e [e.b, e.to]
  have hb3 := p_blk p e [e.b, e.to, e.ot]
  have r1 := p_first (gl := glD) [⟨8, 94, [.fptr (cA p e), .fptr (cE e)], decide (newBlockV p e.f < 0)⟩] (by simp) ⟨rfl, p_oth1 p e hp, fun _ => trivial⟩
  have r2 := p_first (gl := glD) [⟨2, 129, [.fptr [.sl (ints [e.b])], .fptr (cA p e)], noB p e.f [e.b]⟩, ⟨6, 96, [.fptr (cE e)], e.b == 0⟩] (by simp) ⟨rfl, p_blk1 p e [e.b] (by simp) hp, fun _ => ⟨rfl, p_oth2 e, fun _ => trivial⟩⟩
  have r3 := p_first (gl := glD) [⟨2, 129, [.fptr [.sl (ints [e.b, e.to])], .fptr (cA p e)], noB p e.f [e.b, e.to]⟩, ⟨5, 97, [.fptr (cA p e), .fptr (cE e)], edgV p e.f e.b e.to⟩] (by simp) ⟨rfl, p_blk1 p e [e.b, e.to] (by simp) hp, fun _ => ⟨rfl, p_oth3 p e hf, fun _ => trivial⟩⟩
  have r4 := p_first (gl := glD) [⟨2, 129, [.fptr [.sl (ints [e.b, e.to])], .fptr (cA p e)], noB p e.f [e.b, e.to]⟩, ⟨5, 99, [.fptr (cA p e), .fptr (cE e)], !edgV p e.f e.b e.to⟩] (by simp) ⟨rfl, p_blk1 p e [e.b, e.to] (by simp) hp, fun _ => ⟨rfl, p_oth4 p e hf, fun _ => trivial⟩⟩
  have r5 := p_first (gl := glD) [⟨2, 129, [.fptr [.sl (ints [e.b, e.to, e.ot])], .fptr (cA p e)], noB p e.f [e.b, e.to, e.ot]⟩, ⟨5, 100, [.fptr (cA p e), .fptr (cE e)], !edgV p e.f e.b e.to || (e.ot != e.to && edgV p e.f e.b e.ot)⟩] (by simp) ⟨rfl, p_blk1 p e [e.b, e.to, e.ot] (by simp) hp, fun _ => ⟨rfl, p_oth5 p e hf, fun _ => trivial⟩⟩
  have r6 := p_first (gl := glD) [⟨2, 129, [.fptr [.sl (ints [e.b])], .fptr (cA p e)], noB p e.f [e.b]⟩, ⟨3, 102, [.fptr (cE e), .fptr (cA p e)], decide (e.pos < 0) || decide (e.pos ≥ ((codeV p e.f e.b).length : Nat))⟩] (by simp) ⟨rfl, p_blk1 p e [e.b] (by simp) hp, fun _ => ⟨rfl, p_oth6 p e hp, fun _ => trivial⟩⟩
  refine Pure.fn hmix b68 ?_
  repeat' first | (with_reducible first | refine tr_seq ?_ | refine n_nil ?_ | refine seqQ_normal ?_ | refine seqQ_ret ?_ | refine blkQ_normal ?_ | refine blkQ_ret ?_ | refine tr_block ?_ | refine tr_skip ?_ | refine tr_ret ?_ | refine condT_t ?_ | refine condT_f ?_) | ((with_reducible refine tr_region_f ?_ ?_); kernel_rfl) | ((with_reducible apply tr_cond_e); rfl) | ((with_reducible apply n_call (f := 101)); rfl; rfl; exact hins) | ((with_reducible apply n_call (f := 95)); rfl; rfl; first | exact hb1 | exact hb2 | exact hb3) | ((with_reducible apply n_callb (f := 91)); rfl; rfl; (first | exact r1 | exact r2 | exact r3 | exact r4 | exact r5 | exact r6); rfl) | ((with_reducible apply n_val); rfl; rfl) | ((with_reducible apply n_new); rfl; (first | (simp only [hn0, hn1, hn2, hn3, hn4, hn5, List.length_cons, List.length_nil, Nat.reduceAdd, Nat.zero_add]; first | done | rfl) | rfl); rfl) | ((with_reducible apply n_store); rfl; rfl; rfl; rfl; rfl) | (with_reducible refine condT_split (fun h => ?_) (fun h => ?_)) | ((with_reducible apply fnQ_told_ret); rfl) | ((with_reducible apply fnQ_ret_soft); rfl; rfl)
  all_goals (
    clear hins hb1 hb2 hb3 r1 r2 r3 r4 r5 r6
    refine congrArg (PV.int .i64) ?_
    simp only [beq_iff_eq, beq_eq_false_iff_ne, ne_eq] at *
    unfold othV
    repeat (first | rw [if_pos (by assumption)] | rw [if_neg (by assumption)])
    try rfl)
theorem p_edCheck (p : List Fn) (e : Ed) (hf : few p = true) : Pure Go.Proofs.Tryz.prog glD 40 [pP p, pE e] (.int .i64 (cheV p e)) := by
  have hp := few_fit hf
  have hs := p_Sane p hp
  have hn := p_edName e.op
  have ha := p_addFun (gl := glD) p e
  have hN : ((nmO e.op).toList == (⟨#[]⟩ : ByteArray).toList) = !decide (0 ≤ e.op ∧ e.op < 8) := nmO_empty e.op
  by_cases h : 0 ≤ e.f ∧ e.f < (p.length : Nat)
  · have ho := p_other p e hf h
    refine Pure.fn hmix b40 ?_
    repeat' first | (with_reducible first | refine tr_seq ?_ | refine n_nil ?_ | refine seqQ_normal ?_ | refine seqQ_ret ?_ | refine blkQ_normal ?_ | refine blkQ_ret ?_ | refine tr_block ?_ | refine tr_skip ?_ | refine tr_ret ?_ | refine condT_t ?_ | refine condT_f ?_) | ((with_reducible refine tr_region_f ?_ ?_); kernel_rfl) | exact ⟨rfl, rfl⟩ | ((with_reducible apply tr_cond_e); rfl) | ((with_reducible apply n_and); rfl; rfl; intro h) | ((with_reducible apply n_or); rfl; rfl; intro h) | ((with_reducible apply n_call (f := 13)); rfl; rfl; exact hs) | ((with_reducible apply n_call (f := 47)); rfl; rfl; exact hn) | ((with_reducible apply n_call (f := 67)); rfl; rfl; exact ha) | ((with_reducible apply n_call (f := 68)); rfl; rfl; exact ho) | ((with_reducible apply n_val); rfl; rfl) | ((with_reducible apply n_new); rfl; (first | (simp only [hn0, hn1, hn2, hn3, hn4, hn5, List.length_cons, List.length_nil, Nat.reduceAdd, Nat.zero_add]; first | done | rfl) | rfl); rfl) | ((with_reducible apply n_store); rfl; rfl; rfl; rfl; rfl) | (with_reducible refine condT_split (fun h => ?_) (fun h => ?_)) | ((with_reducible apply fnQ_told_ret); rfl) | ((with_reducible apply fnQ_ret_soft); rfl; rfl)
    all_goals (
      clear hs hn ha
      refine congrArg (PV.int .i64) ?_
      simp only [hN, Bool.not_eq_true', Bool.not_eq_false', decide_eq_true_eq, decide_eq_false_iff_not, beq_iff_eq, beq_eq_false_iff_ne, ne_eq, Bool.or_eq_true, Bool.or_eq_false_iff, List.length_map] at *
      first
        | (exfalso; omega)
        | (unfold cheV
           repeat (first | rw [if_pos (by first | assumption | omega)] | rw [if_neg (by first | assumption | omega | (simp_all; done))])))
  · refine Pure.fn hmix b40 ?_
    repeat' first | (with_reducible first | refine tr_seq ?_ | refine n_nil ?_ | refine seqQ_normal ?_ | refine seqQ_ret ?_ | refine blkQ_normal ?_ | refine blkQ_ret ?_ | refine tr_block ?_ | refine tr_skip ?_ | refine tr_ret ?_ | refine condT_t ?_ | refine condT_f ?_) | ((with_reducible refine tr_region_f ?_ ?_); kernel_rfl) | exact ⟨rfl, rfl⟩ | ((with_reducible apply tr_cond_e); rfl) | ((with_reducible apply n_and); rfl; rfl; intro h) | ((with_reducible apply n_or); rfl; rfl; intro h) | ((with_reducible apply n_call (f := 13)); rfl; rfl; exact hs) | ((with_reducible apply n_call (f := 47)); rfl; rfl; exact hn) | ((with_reducible apply n_call (f := 67)); rfl; rfl; exact ha) | (exfalso; rename (_ || _) = false => hq; simp only [Bool.or_eq_false_iff, decide_eq_false_iff_not, List.length_map] at hq; omega) | ((with_reducible apply n_val); rfl; rfl) | ((with_reducible apply n_new); rfl; (first | (simp only [hn0, hn1, hn2, hn3, hn4, hn5, List.length_cons, List.length_nil, Nat.reduceAdd, Nat.zero_add]; first | done | rfl) | rfl); rfl) | ((with_reducible apply n_store); rfl; rfl; rfl; rfl; rfl) | (with_reducible refine condT_split (fun h => ?_) (fun h => ?_)) | ((with_reducible apply fnQ_told_ret); rfl) | ((with_reducible apply fnQ_ret_soft); rfl; rfl)
    all_goals (
      clear hs hn ha
      refine congrArg (PV.int .i64) ?_
      simp only [hN, Bool.not_eq_true', Bool.not_eq_false', decide_eq_true_eq, decide_eq_false_iff_not, beq_iff_eq, beq_eq_false_iff_ne, ne_eq, Bool.or_eq_true, Bool.or_eq_false_iff, List.length_map] at *
      first
        | (exfalso; omega)
        | (unfold cheV
           repeat (first | rw [if_pos (by first | assumption | omega)] | rw [if_neg (by first | assumption | omega | (simp_all; done))])))
theorem p_edTou (p : List Fn) (e : Ed) (hf : few p = true) : Pure Go.Proofs.Tryz.prog glD 43 [pP p, pE e] (.sl (ints (touV p e))) := by
  have hc := p_edCheck p e hf
  unfold touV
  generalize cheV p e = c at *
  refine Pure.fn hmix b43 ?_
  repeat' first | (with_reducible first | refine tr_seq ?_ | refine n_nil ?_ | refine seqQ_normal ?_ | refine seqQ_ret ?_ | refine blkQ_normal ?_ | refine blkQ_ret ?_ | refine tr_block ?_ | refine tr_skip ?_ | refine tr_ret ?_ | refine condT_t ?_ | refine condT_f ?_) | ((with_reducible refine tr_region_f ?_ ?_); kernel_rfl) | ((with_reducible apply tr_cond_e); rfl) | ((with_reducible apply n_call (f := 40)); rfl; rfl; exact hc) | ((with_reducible apply n_val); rfl; rfl) | ((with_reducible apply n_new); rfl; (first | (simp only [hn0, hn1, hn2, hn3, hn4, hn5, List.length_cons, List.length_nil, Nat.reduceAdd, Nat.zero_add]; first | done | rfl) | rfl); rfl) | ((with_reducible apply n_row); rfl; (first | (simp only [hn0, hn1, hn2, hn3, hn4, hn5, List.length_cons, List.length_nil, Nat.reduceAdd, Nat.zero_add]; first | done | rfl) | rfl); rfl) | (with_reducible refine condT_split (fun h => ?_) (fun h => ?_)) | ((with_reducible apply fnQ_told_ret); rfl) | ((with_reducible apply fnQ_ret_soft); rfl; rfl)
  all_goals (simp only [bne_iff_ne, bne_eq_false_iff_eq, beq_iff_eq, beq_eq_false_iff_ne, ne_eq] at *)
  · rw [if_pos (by assumption)]; rfl
  · rw [if_neg (by omega), if_pos (by assumption), List.length_map]; rfl
  · rw [if_neg (by omega), if_neg (by assumption)]; rfl
theorem p_edSame (p : List Fn) (e : Ed) (hf : few p = true) : Pure Go.Proofs.Tryz.prog glD 45 [pP p, pE e] (.bool (samV p e)) := by
  have hc := p_edCheck p e hf
  unfold samV
  generalize cheV p e = c at *
  refine Pure.fn hmix b45 ?_
  repeat' first | (with_reducible first | refine tr_seq ?_ | refine n_nil ?_ | refine seqQ_normal ?_ | refine seqQ_ret ?_ | refine blkQ_ret ?_ | refine tr_ret ?_) | ((with_reducible refine tr_region_f ?_ ?_); kernel_rfl) | exact ⟨rfl, rfl⟩ | ((with_reducible apply n_and); rfl; rfl; intro h) | ((with_reducible apply n_or); rfl; rfl; intro h) | ((with_reducible apply n_call (f := 40)); rfl; rfl; exact hc) | ((with_reducible apply n_val); rfl; rfl) | ((with_reducible apply n_new); rfl; (first | (simp only [hn0, hn1, hn2, hn3, hn4, hn5, List.length_cons, List.length_nil, Nat.reduceAdd, Nat.zero_add]; first | done | rfl) | rfl); rfl) | ((with_reducible apply fnQ_told_ret); rfl) | ((with_reducible apply fnQ_ret_soft); rfl; rfl)
  rfl
end Go.Vm
end
