/- Laid. -/
import Derived.Test.YtlcbceneacnaiaaGreatDoorVmThree
import Derived.KernelRfl
import Derived.Test.YtlcbceneacnaiaaGreatDoorProg
import Derived.Test.YtlcbceneacnaiaaGreatDoorXinstrP
import Derived.Test.YtlcbceneacnaiaaGreatDoorLAll
section
/- Code. -/
set_option maxRecDepth 100000
set_option linter.unusedSimpArgs false
set_option linter.unusedVariables false
namespace Go.Vm
open Go
def c3 : RFn := ⟨(.seq (.region (Nodes.flat none (.op (some 4) (.box (.t 0)) 0
  (.op (some 5) (.box (.t 1)) 0
  (.op (some 6) (.box (.t 2)) 0
  (.op (some 8) (.move (.c (.bool false))) 0
  .nil))))) false)
 (.seq (.region (Nodes.flat none (.op (some 10) (.call 5 []) 0
  (.op (some 9) (.move (.t 10)) 0
  .nil))) false)
 (.seq (.seq (.region (Nodes.flat none (.op (some 11) (.fieldAddr 1 (.t 4)) 0
  (.op (some 12) (.load none (.t 11)) 0
  (.op (some 13) (.len false (.t 12)) 0
  (.op (some 14) (.bin .gtr (.t 13) (.c (.int .i64 100))) 0
  (.op (some 15) (.move (.t 14)) 0
  (.grd 15 false
  (.op (some 16) (.fieldAddr 1 (.t 5)) 0
  (.op (some 17) (.load none (.t 16)) 0
  (.op (some 18) (.len false (.t 17)) 0
  (.op (some 19) (.bin .gtr (.t 18) (.c (.int .i64 100))) 0
  .nil))))
  (.op (some 20) (.pick (.t 15) (.c (.bool true)) (.t 19)) 0
  .nil)))))))) false)
 (.cond (.t 20)
 (.seq (.region (Nodes.flat none (.op (some 21) (.move (.t 9)) 0
  (.op (some 8) (.move (.t 21)) 0
  .nil))) false)
 .ret)
 .skip))
 (.seq (.region (Nodes.flat none (.op (some 22) (.move (.t 9)) 0
  (.op (some 23) (.move (.t 22)) 1
  (.grd 23 true
  (.op (some 24) (.load (some 2) (.t 4)) 3
  (.op (some 25) (.call 9 [(.t 24)]) 7
  (.op (some 26) (.load (some 11) (.t 6)) 3
  (.op (some 27) (.call 8 [(.t 25), (.t 26)]) 31
  (.op (some 28) (.call 7 [(.t 27)]) 63
  (.op (some 29) (.load (some 2) (.t 4)) 3
  (.op (some 30) (.load (some 11) (.t 6)) 3
  (.op (some 31) (.call 10 [(.t 29), (.t 30)]) 511
  (.op (some 32) (.call 6 [(.t 28), (.t 31)]) 1023
  .nil)))))))))
  (.op (some 33) (.pick (.t 23) (.t 32) (.c (.bool false))) 2047
  (.op (some 34) (.move (.t 33)) 4095
  (.grd 34 true
  (.op (some 35) (.load (some 2) (.t 5)) 8191
  (.op (some 36) (.call 14 [(.t 35)]) 16383
  (.op (some 37) (.load (some 11) (.t 6)) 8191
  (.op (some 38) (.move (.t 3)) 8191
  (.op (some 39) (.call 13 [(.t 36), (.t 37), (.t 38)]) 131071
  (.op (some 40) (.call 12 [(.t 39)]) 262143
  (.op (some 41) (.load (some 2) (.t 5)) 8191
  (.op (some 42) (.load (some 11) (.t 6)) 8191
  (.op (some 43) (.move (.t 3)) 8191
  (.op (some 44) (.call 15 [(.t 41), (.t 42), (.t 43)]) 4194303
  (.op (some 45) (.call 11 [(.t 40), (.t 44)]) 8388607
  .nil)))))))))))
  (.op (some 46) (.pick (.t 34) (.t 45) (.c (.bool false))) 16777215
  (.op (some 8) (.move (.t 46)) 33554431
  .nil))))))))) true)
 .ret)))),
 [.tmp 8]⟩
theorem b3 : fnOf Go.Proofs.Tryz.prog (owOf []) 3 = some c3 := by kernel_rfl
def c7 : RFn := ⟨(.seq (.region (Nodes.flat none (.op (some 1) (.box (.t 0)) 0
  (.op (some 2) (.alloc (.agg [(.bool false), (.lit [])])) 0
  .nil))) false)
 (.seq (.region (Nodes.flat none (.op (some 5) (.fieldAddr 0 (.t 1)) 0
  (.op (some 6) (.load none (.t 5)) 0
  (.op (some 7) (.build [(.bool false), (.lit [])] [(0, 1, (.t 6))]) 0
  (.op (some 3) (.alloc (.agg [(.bool false), (.lit [])])) 0
  (.op none (.store 2 (.t 3) (.t 7)) 0
  .nil)))))) false)
 (.seq (.seq (.region (Nodes.flat none (.op (some 4) (.move (.c (.int .i64 0))) 0
  .nil)) false)
 (.block 0 (.loop (.seq (.seq (.region (Nodes.flat none (.op (some 8) (.move (.t 4)) 0
  (.op (some 9) (.fieldAddr 1 (.t 1)) 0
  (.op (some 10) (.load none (.t 9)) 0
  (.op (some 11) (.len false (.t 10)) 0
  (.op (some 12) (.bin .lss (.t 8) (.t 11)) 0
  .nil)))))) false)
 (.cond (.t 12)
 .skip
 (.exit 0)))
 (.seq (.block 1 (.region (Nodes.flat none (.op (some 15) (.fieldAddr 1 (.t 3)) 0
  (.op (some 16) (.load none (.t 15)) 1
  (.op (some 17) (.fieldAddr 1 (.t 1)) 0
  (.op (some 18) (.load none (.t 17)) 4
  (.op (some 19) (.move (.t 4)) 0
  (.op (some 20) (.idxAddr 2 (.t 18) (.t 19)) 28
  (.op (some 21) (.fieldAddr 0 (.t 20)) 60
  (.op (some 22) (.load none (.t 21)) 124
  (.op (some 23) (.fieldAddr 1 (.t 1)) 0
  (.op (some 24) (.load none (.t 23)) 256
  (.op (some 25) (.move (.t 4)) 0
  (.op (some 26) (.idxAddr 2 (.t 24) (.t 25)) 1792
  (.op (some 27) (.fieldAddr 1 (.t 26)) 3840
  (.op (some 28) (.load none (.t 27)) 7936
  (.op (some 29) (.build [(.int .i64 0), (.int .i64 0)] [(0, 1, (.t 22)), (1, 1, (.t 28))]) 16380
  (.op (some 30) (.bslice false 2 1 (.agg [(.int .i64 0), (.int .i64 0)]) [(0, (.t 29))]) 32764
  (.op (some 31) (.append 2 (.agg [(.int .i64 0), (.int .i64 0)]) (.t 16) (.t 30)) 65535
  (.op (some 32) (.fieldAddr 1 (.t 3)) 131071
  (.op none (.store 1 (.t 32) (.t 31)) 262143
  .nil)))))))))))))))))))) true))
 (.region (Nodes.flat none (.op (some 13) (.move (.t 4)) 0
  (.op (some 14) (.bin .add (.t 13) (.c (.int .i64 1))) 0
  (.op (some 4) (.move (.t 14)) 0
  .nil)))) false))))))
 (.seq (.region (Nodes.flat none (.op (some 33) (.load (some 2) (.t 3)) 0
  (.op none (.store 2 (.t 2) (.t 33)) 0
  .nil))) false)
 .ret)))),
 [.cell (some 2) 2]⟩
theorem b7 : fnOf Go.Proofs.Tryz.prog (owOf [(5, 15)]) 7 = some c7 := by kernel_rfl
def c10 : RFn := ⟨(.seq (.region (Nodes.flat none (.op (some 2) (.box (.t 0)) 0
  (.op (some 3) (.box (.t 1)) 0
  (.op (some 4) (.alloc (.agg [(.bool false), (.lit [])])) 0
  .nil)))) false)
 (.seq (.seq (.region (Nodes.flat none (.op (some 5) (.load (some 11) (.t 3)) 0
  (.op (some 6) (.call 33 [(.t 5)]) 0
  (.op (some 7) (.bin .lss (.t 6) (.c (.int .i64 0))) 0
  .nil)))) false)
 (.cond (.t 7)
 (.seq (.region (Nodes.flat none (.op (some 8) (.load (some 2) (.t 2)) 0
  (.op (some 9) (.load (some 2) (.t 2)) 0
  (.op (some 10) (.call 34 [(.t 8), (.t 9)]) 0
  (.op none (.store 2 (.t 4) (.t 10)) 0
  .nil))))) false)
 .ret)
 .skip))
 (.seq (.region (Nodes.flat none (.op (some 11) (.load (some 2) (.t 2)) 0
  (.op (some 12) (.fieldAddr 2 (.t 3)) 0
  (.op (some 13) (.load none (.t 12)) 2
  (.op (some 14) (.load (some 2) (.t 2)) 0
  (.op (some 15) (.load (some 11) (.t 3)) 0
  (.op (some 16) (.call 36 [(.t 14), (.t 15)]) 24
  (.op (some 17) (.call 35 [(.t 11), (.t 13), (.t 16)]) 63
  (.op none (.store 2 (.t 4) (.t 17)) 127
  .nil))))))))) true)
 .ret))),
 [.cell (some 2) 4]⟩
theorem b10 : fnOf Go.Proofs.Tryz.prog (owOf []) 10 = some c10 := by kernel_rfl
def c12 : RFn := ⟨(.seq (.region (Nodes.flat none (.op (some 1) (.box (.t 0)) 0
  (.op (some 2) (.alloc (.agg [(.bool false), (.lit [])])) 0
  .nil))) false)
 (.seq (.region (Nodes.flat none (.op (some 3) (.fieldAddr 0 (.t 1)) 0
  (.op (some 4) (.load none (.t 3)) 0
  (.op (some 5) (.fieldAddr 1 (.t 1)) 0
  (.op (some 6) (.load none (.t 5)) 0
  (.op (some 7) (.build [(.bool false), (.lit [])] [(0, 1, (.t 4)), (1, 1, (.t 6))]) 0
  (.op none (.store 2 (.t 2) (.t 7)) 0
  .nil))))))) false)
 .ret)),
 [.cell (some 2) 2]⟩
theorem b12 : fnOf Go.Proofs.Tryz.prog (owOf []) 12 = some c12 := by kernel_rfl
def c13 : RFn := ⟨(.seq (.region (Nodes.flat none (.op (some 3) (.box (.t 0)) 0
  (.op (some 4) (.box (.t 1)) 0
  (.op (some 6) (.alloc (.agg [(.bool false), (.lit [])])) 0
  .nil)))) false)
 (.seq (.region (Nodes.flat none (.op (some 7) (.load (some 2) (.t 3)) 0
  (.op (some 8) (.load (some 11) (.t 4)) 0
  (.op (some 9) (.call 27 [(.t 8)]) 2
  (.op (some 10) (.load (some 2) (.t 3)) 0
  (.op (some 11) (.load (some 11) (.t 4)) 0
  (.op (some 12) (.move (.t 2)) 0
  (.op (some 13) (.call 38 [(.t 10), (.t 11), (.t 12)]) 62
  (.op (some 14) (.call 37 [(.t 7), (.t 9), (.t 13)]) 127
  (.op none (.store 2 (.t 6) (.t 14)) 255
  .nil)))))))))) true)
 .ret)),
 [.cell (some 2) 6]⟩
theorem b13 : fnOf Go.Proofs.Tryz.prog (owOf []) 13 = some c13 := by kernel_rfl
def c14 : RFn := ⟨(.seq (.region (Nodes.flat none (.op (some 1) (.box (.t 0)) 0
  (.op (some 2) (.alloc (.agg [(.bool false), (.lit [])])) 0
  .nil))) false)
 (.seq (.region (Nodes.flat none (.op (some 3) (.fieldAddr 0 (.t 1)) 0
  (.op (some 4) (.load none (.t 3)) 0
  (.op (some 5) (.fieldAddr 1 (.t 1)) 0
  (.op (some 6) (.load none (.t 5)) 0
  (.op (some 7) (.build [(.bool false), (.lit [])] [(0, 1, (.t 4)), (1, 1, (.t 6))]) 0
  (.op none (.store 2 (.t 2) (.t 7)) 0
  .nil))))))) false)
 .ret)),
 [.cell (some 2) 2]⟩
theorem b14 : fnOf Go.Proofs.Tryz.prog (owOf []) 14 = some c14 := by kernel_rfl
def c15 : RFn := ⟨(.seq (.region (Nodes.flat none (.op (some 3) (.box (.t 0)) 0
  (.op (some 4) (.box (.t 1)) 0
  (.op (some 6) (.alloc (.agg [(.bool false), (.lit [])])) 0
  .nil)))) false)
 (.seq (.seq (.region (Nodes.flat none (.op (some 7) (.load (some 11) (.t 4)) 0
  (.op (some 8) (.call 33 [(.t 7)]) 0
  (.op (some 9) (.bin .lss (.t 8) (.c (.int .i64 0))) 0
  .nil)))) false)
 (.cond (.t 9)
 (.seq (.region (Nodes.flat none (.op (some 10) (.load (some 2) (.t 3)) 0
  (.op (some 11) (.load (some 2) (.t 3)) 0
  (.op (some 12) (.call 39 [(.t 10), (.t 11)]) 0
  (.op none (.store 2 (.t 6) (.t 12)) 0
  .nil))))) false)
 .ret)
 .skip))
 (.seq (.region (Nodes.flat none (.op (some 13) (.load (some 2) (.t 3)) 0
  (.op (some 14) (.fieldAddr 2 (.t 4)) 0
  (.op (some 15) (.load none (.t 14)) 2
  (.op (some 16) (.load (some 2) (.t 3)) 0
  (.op (some 17) (.load (some 11) (.t 4)) 0
  (.op (some 18) (.move (.t 2)) 0
  (.op (some 19) (.call 41 [(.t 16), (.t 17), (.t 18)]) 56
  (.op (some 20) (.call 40 [(.t 13), (.t 15), (.t 19)]) 127
  (.op none (.store 2 (.t 6) (.t 20)) 255
  .nil)))))))))) true)
 .ret))),
 [.cell (some 2) 6]⟩
theorem b15 : fnOf Go.Proofs.Tryz.prog (owOf []) 15 = some c15 := by kernel_rfl
def c36 : RFn := ⟨(.seq (.region (Nodes.flat none (.op (some 2) (.box (.t 0)) 0
  (.op (some 3) (.box (.t 1)) 0
  (.op (some 4) (.alloc (.agg [(.int .i64 0), (.int .i64 0)])) 0
  .nil)))) false)
 (.seq (.region (Nodes.flat none (.op (some 7) (.load (some 2) (.t 2)) 0
  (.op (some 8) (.fieldAddr 3 (.t 3)) 0
  (.op (some 9) (.load none (.t 8)) 0
  (.op (some 10) (.call 71 [(.t 7), (.t 9)]) 0
  (.op (some 5) (.alloc (.agg [(.int .i64 0), (.int .i64 0)])) 0
  (.op none (.store 2 (.t 5) (.t 10)) 0
  .nil))))))) false)
 (.seq (.region (Nodes.flat none (.op (some 11) (.load (some 2) (.t 2)) 0
  (.op (some 12) (.fieldAddr 4 (.t 3)) 0
  (.op (some 13) (.load none (.t 12)) 0
  (.op (some 14) (.call 71 [(.t 11), (.t 13)]) 0
  (.op (some 6) (.alloc (.agg [(.int .i64 0), (.int .i64 0)])) 0
  (.op none (.store 2 (.t 6) (.t 14)) 0
  .nil))))))) false)
 (.seq (.seq (.region (Nodes.flat none (.op (some 15) (.fieldAddr 1 (.t 3)) 0
  (.op (some 16) (.load none (.t 15)) 0
  .nil))) false)
 (.block 0 (.seq (.region (Nodes.flat none (.op (some 18) (.bin .eql (.t 16) (.c (.int .i64 0))) 0
  (.op (some 17) (.move (.t 18)) 0
  .nil))) false)
 (.cond (.t 17)
 (.seq (.region (Nodes.flat none (.op (some 19) (.fieldAddr 5 (.t 3)) 0
  (.op (some 20) (.load none (.t 19)) 0
  (.op (some 21) (.call 73 [(.t 20)]) 0
  (.op none (.store 2 (.t 4) (.t 21)) 0
  .nil))))) false)
 .ret)
 (.seq (.region (Nodes.flat none (.op (some 23) (.bin .eql (.t 16) (.c (.int .i64 1))) 0
  (.op (some 22) (.move (.t 23)) 0
  .nil))) false)
 (.cond (.t 22)
 (.seq (.region (Nodes.flat none (.op (some 24) (.load (some 2) (.t 5)) 0
  (.op none (.store 2 (.t 4) (.t 24)) 0
  .nil))) false)
 .ret)
 (.seq (.region (Nodes.flat none (.op (some 26) (.bin .eql (.t 16) (.c (.int .i64 2))) 0
  (.op (some 25) (.move (.t 26)) 0
  .nil))) false)
 (.cond (.t 25)
 (.seq (.region (Nodes.flat none (.op (some 27) (.load (some 2) (.t 5)) 0
  (.op (some 28) (.call 74 [(.t 27)]) 0
  (.op none (.store 2 (.t 4) (.t 28)) 0
  .nil)))) false)
 .ret)
 (.seq (.region (Nodes.flat none (.op (some 30) (.bin .eql (.t 16) (.c (.int .i64 3))) 0
  (.op (some 29) (.move (.t 30)) 0
  .nil))) false)
 (.cond (.t 29)
 (.seq (.region (Nodes.flat none (.op (some 31) (.load (some 2) (.t 5)) 0
  (.op (some 32) (.load (some 2) (.t 6)) 0
  (.op (some 33) (.call 75 [(.t 31), (.t 32)]) 0
  (.op none (.store 2 (.t 4) (.t 33)) 0
  .nil))))) false)
 .ret)
 (.seq (.region (Nodes.flat none (.op (some 35) (.bin .eql (.t 16) (.c (.int .i64 4))) 0
  (.op (some 34) (.move (.t 35)) 0
  .nil))) false)
 (.cond (.t 34)
 (.seq (.region (Nodes.flat none (.op (some 36) (.load (some 2) (.t 5)) 0
  (.op (some 37) (.load (some 2) (.t 6)) 0
  (.op (some 38) (.call 76 [(.t 36), (.t 37)]) 0
  (.op none (.store 2 (.t 4) (.t 38)) 0
  .nil))))) false)
 .ret)
 (.seq (.region (Nodes.flat none (.op (some 40) (.bin .eql (.t 16) (.c (.int .i64 5))) 0
  (.op (some 39) (.move (.t 40)) 0
  .nil))) false)
 (.cond (.t 39)
 (.seq (.region (Nodes.flat none (.op (some 41) (.load (some 2) (.t 5)) 0
  (.op (some 42) (.load (some 2) (.t 6)) 0
  (.op (some 43) (.call 77 [(.t 41), (.t 42)]) 0
  (.op none (.store 2 (.t 4) (.t 43)) 0
  .nil))))) false)
 .ret)
 .skip))))))))))))))
 (.seq (.region (Nodes.flat none (.op (some 44) (.build [(.int .i64 0), (.int .i64 0)] [(0, 1, (.c (.int .i64 2)))]) 0
  (.op none (.store 2 (.t 4) (.t 44)) 0
  .nil))) false)
 .ret))))),
 [.cell (some 2) 4]⟩
theorem b36 : fnOf Go.Proofs.Tryz.prog (owOf []) 36 = some c36 := by kernel_rfl
def c38 : RFn := ⟨(.seq (.region (Nodes.flat none (.op (some 3) (.box (.t 0)) 0
  (.op (some 4) (.box (.t 1)) 0
  (.op (some 6) (.move (.c (.int .i64 0))) 0
  .nil)))) false)
 (.seq (.region (Nodes.flat none (.op (some 9) (.load (some 2) (.t 3)) 0
  (.op (some 10) (.fieldAddr 3 (.t 4)) 0
  (.op (some 11) (.load none (.t 10)) 2
  (.op (some 12) (.call 79 [(.t 9), (.t 11)]) 7
  (.op (some 13) (.load (some 2) (.t 3)) 0
  (.op (some 14) (.fieldAddr 4 (.t 4)) 0
  (.op (some 15) (.load none (.t 14)) 32
  (.op (some 16) (.call 79 [(.t 13), (.t 15)]) 127
  (.op (some 7) (.move (.t 12)) 255
  (.op (some 8) (.move (.t 16)) 511
  .nil))))))))))) true)
 (.seq (.seq (.region (Nodes.flat none (.op (some 17) (.fieldAddr 1 (.t 4)) 0
  (.op (some 18) (.load none (.t 17)) 0
  (.op (some 19) (.call 30 [(.t 18)]) 0
  .nil)))) false)
 (.block 0 (.seq (.region (Nodes.flat none (.op (some 21) (.bin .eql (.t 19) (.c (.str ⟨#[99, 111, 110, 115, 116]⟩))) 0
  (.op (some 20) (.move (.t 21)) 0
  .nil))) false)
 (.cond (.t 20)
 (.seq (.region (Nodes.flat none (.op (some 22) (.fieldAddr 5 (.t 4)) 0
  (.op (some 23) (.load none (.t 22)) 0
  (.op (some 24) (.call 80 [(.t 23)]) 0
  (.op (some 6) (.move (.t 24)) 0
  .nil))))) false)
 .ret)
 (.seq (.region (Nodes.flat none (.op (some 26) (.bin .eql (.t 19) (.c (.str ⟨#[99, 111, 112, 121]⟩))) 0
  (.op (some 25) (.move (.t 26)) 0
  .nil))) false)
 (.cond (.t 25)
 (.seq (.region (Nodes.flat none (.op (some 27) (.move (.t 7)) 0
  (.op (some 6) (.move (.t 27)) 0
  .nil))) false)
 .ret)
 (.seq (.region (Nodes.flat none (.op (some 29) (.bin .eql (.t 19) (.c (.str ⟨#[110, 101, 103]⟩))) 0
  (.op (some 28) (.move (.t 29)) 0
  .nil))) false)
 (.cond (.t 28)
 (.seq (.region (Nodes.flat none (.op (some 30) (.move (.t 7)) 0
  (.op (some 31) (.call 81 [(.t 30)]) 0
  (.op (some 6) (.move (.t 31)) 0
  .nil)))) false)
 .ret)
 (.seq (.region (Nodes.flat none (.op (some 33) (.bin .eql (.t 19) (.c (.str ⟨#[97, 100, 100]⟩))) 0
  (.op (some 32) (.move (.t 33)) 0
  .nil))) false)
 (.cond (.t 32)
 (.seq (.region (Nodes.flat none (.op (some 34) (.move (.t 7)) 0
  (.op (some 35) (.move (.t 8)) 0
  (.op (some 36) (.call 82 [(.t 34), (.t 35)]) 0
  (.op (some 6) (.move (.t 36)) 0
  .nil))))) false)
 .ret)
 (.seq (.region (Nodes.flat none (.op (some 38) (.bin .eql (.t 19) (.c (.str ⟨#[115, 117, 98]⟩))) 0
  (.op (some 37) (.move (.t 38)) 0
  .nil))) false)
 (.cond (.t 37)
 (.seq (.region (Nodes.flat none (.op (some 39) (.move (.t 7)) 0
  (.op (some 40) (.move (.t 8)) 0
  (.op (some 41) (.call 83 [(.t 39), (.t 40)]) 0
  (.op (some 6) (.move (.t 41)) 0
  .nil))))) false)
 .ret)
 (.seq (.region (Nodes.flat none (.op (some 43) (.bin .eql (.t 19) (.c (.str ⟨#[109, 117, 108]⟩))) 0
  (.op (some 42) (.move (.t 43)) 0
  .nil))) false)
 (.cond (.t 42)
 (.seq (.region (Nodes.flat none (.op (some 44) (.move (.t 7)) 0
  (.op (some 45) (.move (.t 8)) 0
  (.op (some 46) (.call 84 [(.t 44), (.t 45)]) 0
  (.op (some 6) (.move (.t 46)) 0
  .nil))))) false)
 .ret)
 (.seq (.region (Nodes.flat none (.op (some 48) (.bin .eql (.t 19) (.c (.str ⟨#[99, 97, 108, 108]⟩))) 0
  (.op (some 47) (.move (.t 48)) 0
  .nil))) false)
 (.cond (.t 47)
 (.seq (.region (Nodes.flat none (.op (some 49) (.move (.t 2)) 0
  (.op (some 6) (.move (.t 49)) 0
  .nil))) false)
 .ret)
 .skip))))))))))))))))
 (.seq (.region (Nodes.flat none (.op (some 6) (.move (.c (.int .i64 7))) 0
  .nil)) false)
 .ret)))),
 [.tmp 6]⟩
theorem b38 : fnOf Go.Proofs.Tryz.prog (owOf []) 38 = some c38 := by kernel_rfl
def c41 : RFn := ⟨(.seq (.region (Nodes.flat none (.op (some 3) (.box (.t 0)) 0
  (.op (some 4) (.box (.t 1)) 0
  (.op (some 6) (.move (.c (.int .i64 0))) 0
  .nil)))) false)
 (.seq (.region (Nodes.flat none (.op (some 9) (.load (some 2) (.t 3)) 0
  (.op (some 10) (.fieldAddr 3 (.t 4)) 0
  (.op (some 11) (.load none (.t 10)) 0
  (.op (some 12) (.call 86 [(.t 9), (.t 11)]) 0
  (.op (some 7) (.move (.t 12)) 0
  .nil)))))) false)
 (.seq (.region (Nodes.flat none (.op (some 13) (.load (some 2) (.t 3)) 0
  (.op (some 14) (.fieldAddr 4 (.t 4)) 0
  (.op (some 15) (.load none (.t 14)) 0
  (.op (some 16) (.call 86 [(.t 13), (.t 15)]) 0
  (.op (some 8) (.move (.t 16)) 0
  .nil)))))) false)
 (.seq (.seq (.region (Nodes.flat none (.op (some 17) (.fieldAddr 1 (.t 4)) 0
  (.op (some 18) (.load none (.t 17)) 0
  .nil))) false)
 (.block 0 (.seq (.region (Nodes.flat none (.op (some 20) (.bin .eql (.t 18) (.c (.int .i64 0))) 0
  (.op (some 19) (.move (.t 20)) 0
  .nil))) false)
 (.cond (.t 19)
 (.seq (.region (Nodes.flat none (.op (some 21) (.fieldAddr 5 (.t 4)) 0
  (.op (some 22) (.load none (.t 21)) 0
  (.op (some 23) (.call 88 [(.t 22)]) 0
  (.op (some 6) (.move (.t 23)) 0
  .nil))))) false)
 .ret)
 (.seq (.region (Nodes.flat none (.op (some 25) (.bin .eql (.t 18) (.c (.int .i64 1))) 0
  (.op (some 24) (.move (.t 25)) 0
  .nil))) false)
 (.cond (.t 24)
 (.seq (.region (Nodes.flat none (.op (some 26) (.move (.t 7)) 0
  (.op (some 6) (.move (.t 26)) 0
  .nil))) false)
 .ret)
 (.seq (.region (Nodes.flat none (.op (some 28) (.bin .eql (.t 18) (.c (.int .i64 2))) 0
  (.op (some 27) (.move (.t 28)) 0
  .nil))) false)
 (.cond (.t 27)
 (.seq (.region (Nodes.flat none (.op (some 29) (.move (.t 7)) 0
  (.op (some 30) (.call 89 [(.t 29)]) 0
  (.op (some 6) (.move (.t 30)) 0
  .nil)))) false)
 .ret)
 (.seq (.region (Nodes.flat none (.op (some 32) (.bin .eql (.t 18) (.c (.int .i64 3))) 0
  (.op (some 31) (.move (.t 32)) 0
  .nil))) false)
 (.cond (.t 31)
 (.seq (.region (Nodes.flat none (.op (some 33) (.move (.t 7)) 0
  (.op (some 34) (.move (.t 8)) 0
  (.op (some 35) (.call 90 [(.t 33), (.t 34)]) 0
  (.op (some 6) (.move (.t 35)) 0
  .nil))))) false)
 .ret)
 (.seq (.region (Nodes.flat none (.op (some 37) (.bin .eql (.t 18) (.c (.int .i64 4))) 0
  (.op (some 36) (.move (.t 37)) 0
  .nil))) false)
 (.cond (.t 36)
 (.seq (.region (Nodes.flat none (.op (some 38) (.move (.t 7)) 0
  (.op (some 39) (.move (.t 8)) 0
  (.op (some 40) (.call 91 [(.t 38), (.t 39)]) 0
  (.op (some 6) (.move (.t 40)) 0
  .nil))))) false)
 .ret)
 (.seq (.region (Nodes.flat none (.op (some 42) (.bin .eql (.t 18) (.c (.int .i64 5))) 0
  (.op (some 41) (.move (.t 42)) 0
  .nil))) false)
 (.cond (.t 41)
 (.seq (.region (Nodes.flat none (.op (some 43) (.move (.t 7)) 0
  (.op (some 44) (.move (.t 8)) 0
  (.op (some 45) (.call 92 [(.t 43), (.t 44)]) 0
  (.op (some 6) (.move (.t 45)) 0
  .nil))))) false)
 .ret)
 (.seq (.region (Nodes.flat none (.op (some 47) (.bin .eql (.t 18) (.c (.int .i64 7))) 0
  (.op (some 46) (.move (.t 47)) 0
  .nil))) false)
 (.cond (.t 46)
 (.seq (.region (Nodes.flat none (.op (some 48) (.move (.t 2)) 0
  (.op (some 6) (.move (.t 48)) 0
  .nil))) false)
 .ret)
 .skip))))))))))))))))
 (.seq (.region (Nodes.flat none (.op (some 6) (.move (.c (.int .i64 7))) 0
  .nil)) false)
 .ret))))),
 [.tmp 6]⟩
theorem b41 : fnOf Go.Proofs.Tryz.prog (owOf []) 41 = some c41 := by kernel_rfl
end Go.Vm
end
section
/- Walks. -/
set_option maxRecDepth 100000
set_option linter.unusedSimpArgs false
set_option linter.unusedVariables false
namespace Go.Vm
open Go
set_option maxHeartbeats 4000000
theorem eJoin_self {T : Type} (z : T) (j : T → T → T) (hj : ∀ a, j a a = a) (e : Option (List T)) : eJoin z j e e = e := by
  cases e with
  | none => rfl
  | some l =>
    show some (tab (max l.length l.length) fun k => j (l.getD k z) (l.getD k z)) = some l
    simp only [hj, Nat.max_self]
    rw [tab_of]
theorem sOr_self8 : ∀ a : Fin 8, sOr (a.1 : Int) (a.1 : Int) = (a.1 : Int) := by decide +kernel
theorem S8.join_self (a : S8) : a.join a = a := by
  refine Subtype.ext ?_
  show sOr (sn a.1) (sn a.1) = a.1
  have e : sn a.1 = a.1 := if_pos a.2
  rw [e]
  have h := a.2
  have := sOr_self8 ⟨a.1.toNat, by omega⟩
  simp only [Int.toNat_of_nonneg h.1] at this
  exact this
def sgI (e : Option (List S8)) (i : In) (ans : Int) : Int :=
  if i.kind = 0 then sOf i.c else if i.kind = 1 then (eGet z8 e i.a).1 else if i.kind = 2 then sMul (eGet z8 e i.a).1 1
  else if i.kind = 3 then sAdd (eGet z8 e i.a).1 (eGet z8 e i.b).1 else if i.kind = 4 then sAdd (eGet z8 e i.a).1 (sMul (eGet z8 e i.b).1 1) else if i.kind = 5 then sMul (eGet z8 e i.a).1 (eGet z8 e i.b).1 else if i.kind = 7 then ans else 7
def sgS (e : Option (List S8)) (i : In) (ans : Int) : S8 := ⟨sn (sgI e i ans), sn_07 _⟩
def signE (e : Option (List S8)) (i : In) (ans : Int) : Option (List S8) := eSet e (defI i) (sgS e i ans)
theorem few_signE {e : Option (List S8)} (h : Few e) (i : In) (ans : Int) : Few (signE e i ans) := few_set h
theorem def_dst {i : In} (h : ¬ defI i < 0) : defI i = i.dst := by
  unfold defI at *
  split
  · rfl
  · rename_i hc
    rw [if_neg hc] at h
    omega
theorem flatE_neg {e : Option (List V3)} {i : In} (h : defI i < 0) : eJoin .bot V3.join e e = flatE e i := by
  rw [flatE, eSet_neg _ _ _ h, eJoin_self _ _ V3.join_self]
theorem signE_neg {e : Option (List S8)} {i : In} {ans : Int} (h : defI i < 0) : eJoin z8 S8.join e e = signE e i ans := by
  rw [signE, eSet_neg _ _ _ h, eJoin_self _ _ S8.join_self]
theorem flatE_pos {e : Option (List V3)} {i : In} (h : ¬ defI i < 0) : eSet e i.dst (numV e i) = flatE e i := by rw [flatE, def_dst h]
theorem signE_pos {e : Option (List S8)} {i : In} {ans : Int} (h : ¬ defI i < 0) : eSet e i.dst (sgS e i ans) = signE e i ans := by rw [signE, def_dst h]
section
variable {gl : Nat → Option PV}
theorem p_rflat_NegV (v : V3) : Pure Go.Proofs.Tryz.prog gl 74 [pv v] (pv v.neg) := by
  have := p_rflat_Neg (gl := gl) v.k v.c
  rwa [toV_kc] at this
theorem p_rflat_AddV (v w : V3) : Pure Go.Proofs.Tryz.prog gl 75 [pv v, pv w] (pv (v.add w)) := by
  have := p_rflat_Add (gl := gl) v.k v.c w.k w.c
  rwa [toV_kc, toV_kc] at this
theorem p_rflat_SubV (v w : V3) : Pure Go.Proofs.Tryz.prog gl 76 [pv v, pv w] (pv (v.sub w)) := by
  have := p_rflat_Sub (gl := gl) v.k v.c w.k w.c
  rwa [toV_kc, toV_kc] at this
theorem p_rflat_MulV (v w : V3) : Pure Go.Proofs.Tryz.prog gl 77 [pv v, pv w] (pv (v.mul w)) := by
  have := p_rflat_Mul (gl := gl) v.k v.c w.k w.c
  rwa [toV_kc, toV_kc] at this
theorem p_r4_SetFlatV {p : PV} {e : Option (List V3)} (i : Int) (v : V3) (h : RepE pq fq p e) : Pure Go.Proofs.Tryz.prog gl 35 [p, .int .i64 i, pv v] (eOut pv (eSet e i v)) := by
  have := p_r4_SetFlat (gl := gl) i v.k v.c h
  rwa [toV_kc] at this
theorem p_value {p : PV} {e : Option (List V3)} (i : In) (h : RepE pq fq p e) : Pure Go.Proofs.Tryz.prog gl 36 [p, pI i] (pv (numV e i)) := by
  have hA := p_r4_GetFlat (gl := gl) i.a h
  have hB := p_r4_GetFlat (gl := gl) i.b h
  have hv : numV e i = numV e i := rfl
  conv at hv => rhs; rw [numV]
  rw [hv]
  clear hv
  obtain ⟨on, l, rfl, rfl, hl⟩ := h
  generalize eGet .bot (eAbs fq on l) i.a = va at *
  generalize eGet .bot (eAbs fq on l) i.b = vb at *
  obtain ⟨id, k, dst, ia, ib, c, f, n, x, y, z⟩ := i
  simp only at hA hB ⊢
  refine Pure.fn hmix b36 ?_
  repeat' first
    | with_reducible refine tr_seq ?_
    | ((with_reducible refine tr_region_f ?_ ?_); kernel_rfl)
    | with_reducible refine n_nil ?_
    | with_reducible refine seqQ_normal ?_
    | with_reducible refine seqQ_ret ?_
    | with_reducible refine blkQ_normal ?_
    | with_reducible refine blkQ_ret ?_
    | with_reducible refine tr_block ?_
    | with_reducible refine tr_skip ?_
    | with_reducible refine tr_ret ?_
    | ((with_reducible apply tr_cond_e); rfl)
    | with_reducible refine condT_t ?_
    | with_reducible refine condT_f ?_
    | ((with_reducible apply n_call (f := 71)); rfl; rfl; (first | exact hA | exact hB))
    | ((with_reducible apply n_val); rfl; rfl)
    | ((with_reducible apply n_new); rfl; (first | (simp only [hn0, hn1, hn2, hn3, hn4, hn5, List.length_cons, List.length_nil, Nat.reduceAdd, Nat.zero_add]; done) | (simp only [hn0, hn1, hn2, hn3, hn4, hn5, List.length_cons, List.length_nil, Nat.reduceAdd, Nat.zero_add]; rfl) | rfl); rfl)
    | ((with_reducible apply n_store); rfl; rfl; rfl; rfl; rfl)
    | ((with_reducible apply n_call (f := 73)); rfl; rfl; exact p_rflat_Of ..)
    | ((with_reducible apply n_call (f := 74)); rfl; rfl; exact p_rflat_NegV ..)
    | ((with_reducible apply n_call (f := 75)); rfl; rfl; exact p_rflat_AddV ..)
    | ((with_reducible apply n_call (f := 76)); rfl; rfl; exact p_rflat_SubV ..)
    | ((with_reducible apply n_call (f := 77)); rfl; rfl; exact p_rflat_MulV ..)
    | (with_reducible refine condT_split (fun h => ?_) (fun h => ?_))
    | ((with_reducible apply fnQ_told_ret); rfl)
    | ((with_reducible apply fnQ_ret_soft); rfl; rfl)
  all_goals (simp only [beq_iff_eq, beq_eq_false_iff_ne, ne_eq] at *; (repeat rw [if_neg (by assumption)]); (try rw [if_pos (by assumption)]); (try rfl))
theorem p_r5_Flat {p : PV} {e : Option (List V3)} (i : In) (h : RepE pq fq p e) : Pure Go.Proofs.Tryz.prog gl 10 [p, pI i] (eOut pv (flatE e i)) := by
  have h1 := p_value (gl := gl) i h
  have h2 := p_r4_SetFlatV (gl := gl) i.dst (numV e i) h
  have h3 := p_r4_JoinFlat (gl := gl) h h
  have e1 : defI i < 0 → eJoin .bot V3.join e e = flatE e i := flatE_neg
  have e2 : ¬ defI i < 0 → eSet e i.dst (numV e i) = flatE e i := flatE_pos
  obtain ⟨on, l, rfl, rfl, hl⟩ := h
  generalize numV (eAbs fq on l) i = v at *
  generalize eSet (eAbs fq on l) i.dst v = r at *
  generalize eJoin .bot V3.join (eAbs fq on l) (eAbs fq on l) = r2 at *
  generalize flatE (eAbs fq on l) i = r3 at *
  refine Pure.fn hmix b10 ?_
  repeat' first
    | with_reducible refine tr_seq ?_
    | ((with_reducible refine tr_region_f ?_ ?_); kernel_rfl)
    | ((with_reducible refine tr_region_t ?_ ?_ ?_); kernel_rfl; kernel_rfl)
    | with_reducible refine n_nil ?_
    | with_reducible refine seqQ_normal ?_
    | with_reducible refine seqQ_ret ?_
    | with_reducible refine blkQ_ret ?_
    | with_reducible refine tr_skip ?_
    | with_reducible refine tr_ret ?_
    | ((with_reducible apply tr_cond_e); rfl)
    | with_reducible refine condT_t ?_
    | with_reducible refine condT_f ?_
    | ((with_reducible apply n_call (f := 36)); rfl; rfl; exact h1)
    | ((with_reducible apply n_call (f := 35)); rfl; rfl; exact h2)
    | ((with_reducible apply n_call (f := 34)); rfl; rfl; exact h3)
    | ((with_reducible apply n_val); rfl; rfl)
    | ((with_reducible apply n_new); rfl; (first | (simp only [hn0, hn1, hn2, hn3, hn4, hn5, List.length_cons, List.length_nil, Nat.reduceAdd, Nat.zero_add]; done) | (simp only [hn0, hn1, hn2, hn3, hn4, hn5, List.length_cons, List.length_nil, Nat.reduceAdd, Nat.zero_add]; rfl) | rfl); rfl)
    | ((with_reducible apply n_store); rfl; rfl; rfl; rfl; rfl)
    | ((with_reducible apply n_call (f := 33)); rfl; rfl; exact p_r5_Def ..)
    | (with_reducible refine condT_split (fun h => ?_) (fun h => ?_))
    | ((with_reducible apply fnQ_told_ret); rfl)
    | ((with_reducible apply fnQ_ret_soft); rfl; rfl)
  · rw [e1 (by simpa using h)]
  · rw [e2 (by simpa using h)]
theorem sgI_r (e : Option (List S8)) (i : In) {ans : Int} (h : i64r ans) : i64r (sgI e i ans) := by
  unfold sgI
  repeat' split
  · exact sOf_i64 _
  · exact S8.i64 _
  · exact sMul_i64 _ _
  · exact sAdd_i64 _ _
  · exact sAdd_i64 _ _
  · exact sMul_i64 _ _
  · exact h
  · unfold i64r; omega
theorem p_sign_NegV (a : S8) : Pure Go.Proofs.Tryz.prog gl 81 [ps a] (.int .i64 (sMul a.1 1)) := p_sign_Neg _ a.i64
theorem p_sign_AddV (a b : S8) : Pure Go.Proofs.Tryz.prog gl 82 [ps a, ps b] (.int .i64 (sAdd a.1 b.1)) := p_sign_Add _ _ a.i64 b.i64
theorem p_sign_SubV (a b : S8) : Pure Go.Proofs.Tryz.prog gl 83 [ps a, ps b] (.int .i64 (sAdd a.1 (sMul b.1 1))) := p_sign_Sub _ _ a.i64 b.i64
theorem p_sign_MulV (a b : S8) : Pure Go.Proofs.Tryz.prog gl 84 [ps a, ps b] (.int .i64 (sMul a.1 b.1)) := p_sign_Mul _ _ a.i64 b.i64
theorem p_rsign_NegV (a : S8) : Pure Go.Proofs.Tryz.prog gl 89 [ps a] (.int .i64 (sMul a.1 1)) := by
  rw [e_neg]
  exact p_rsign_Neg _
theorem p_rsign_AddV (a b : S8) : Pure Go.Proofs.Tryz.prog gl 90 [ps a, ps b] (.int .i64 (sAdd a.1 b.1)) := by
  rw [e_add]
  exact p_rsign_Add _ _
theorem p_rsign_SubV (a b : S8) : Pure Go.Proofs.Tryz.prog gl 91 [ps a, ps b] (.int .i64 (sAdd a.1 (sMul b.1 1))) := by
  rw [e_add, e_neg]
  exact p_rsign_Sub _ _
theorem p_rsign_MulV (a b : S8) : Pure Go.Proofs.Tryz.prog gl 92 [ps a, ps b] (.int .i64 (sMul a.1 b.1)) := by
  rw [e_mul]
  exact p_rsign_Mul _ _
theorem p_env_SetSgn {p : PV} {e : Option (List S8)} (k : Int) (i : In) (ans : I64) (h : RepE pi s8 p e) : Pure Go.Proofs.Tryz.prog gl 37 [p, .int .i64 k, .int .i64 (sgI e i ans.1)] (eOut ps (eSet e k (sgS e i ans.1))) := p_env_SetSign k ⟨_, sgI_r e i ans.2⟩ h
theorem p_rs4_SetSgn {p : PV} {e : Option (List S8)} (k : Int) (i : In) (ans : I64) (h : RepE pi s8 p e) : Pure Go.Proofs.Tryz.prog gl 40 [p, .int .i64 k, .int .i64 (sgI e i ans.1)] (eOut ps (eSet e k (sgS e i ans.1))) := p_rs4_SetSign k ⟨_, sgI_r e i ans.2⟩ h
theorem p_rsigns {p : PV} {e : Option (List S8)} (i : In) (ans : I64) (h : RepE pi s8 p e) : Pure Go.Proofs.Tryz.prog gl 41 [p, pI i, pi ans] (.int .i64 (sgI e i ans.1)) := by
  have hA := p_rs4_GetSign (gl := gl) i.a h
  have hB := p_rs4_GetSign (gl := gl) i.b h
  have hv : sgI e i ans.1 = sgI e i ans.1 := rfl
  conv at hv => rhs; rw [sgI]
  rw [hv]
  clear hv
  obtain ⟨on, l, rfl, rfl, hl⟩ := h
  generalize eGet z8 (eAbs s8 on l) i.a = va at *
  generalize eGet z8 (eAbs s8 on l) i.b = vb at *
  obtain ⟨id, k, dst, ia, ib, c, f, n, x, y, z⟩ := i
  simp only at hA hB ⊢
  refine Pure.fn hmix b41 ?_
  repeat' first
    | with_reducible refine tr_seq ?_
    | ((with_reducible refine tr_region_f ?_ ?_); kernel_rfl)
    | with_reducible refine n_nil ?_
    | with_reducible refine seqQ_normal ?_
    | with_reducible refine seqQ_ret ?_
    | with_reducible refine blkQ_normal ?_
    | with_reducible refine blkQ_ret ?_
    | with_reducible refine tr_block ?_
    | with_reducible refine tr_skip ?_
    | with_reducible refine tr_ret ?_
    | ((with_reducible apply tr_cond_e); rfl)
    | with_reducible refine condT_t ?_
    | with_reducible refine condT_f ?_
    | ((with_reducible apply n_call (f := 86)); rfl; rfl; (first | exact hA | exact hB))
    | ((with_reducible apply n_val); rfl; rfl)
    | ((with_reducible apply n_new); rfl; (first | (simp only [hn0, hn1, hn2, hn3, hn4, hn5, List.length_cons, List.length_nil, Nat.reduceAdd, Nat.zero_add]; done) | (simp only [hn0, hn1, hn2, hn3, hn4, hn5, List.length_cons, List.length_nil, Nat.reduceAdd, Nat.zero_add]; rfl) | rfl); rfl)
    | ((with_reducible apply n_call (f := 88)); rfl; rfl; exact p_rsign_Of ..)
    | ((with_reducible apply n_call (f := 89)); rfl; rfl; exact p_rsign_NegV ..)
    | ((with_reducible apply n_call (f := 90)); rfl; rfl; exact p_rsign_AddV ..)
    | ((with_reducible apply n_call (f := 91)); rfl; rfl; exact p_rsign_SubV ..)
    | ((with_reducible apply n_call (f := 92)); rfl; rfl; exact p_rsign_MulV ..)
    | (with_reducible refine condT_split (fun h => ?_) (fun h => ?_))
    | ((with_reducible apply fnQ_told_ret); rfl)
    | ((with_reducible apply fnQ_ret_soft); rfl; rfl)
  all_goals (simp only [beq_iff_eq, beq_eq_false_iff_ne, ne_eq] at *; (repeat rw [if_neg (by assumption)]); (try rw [if_pos (by assumption)]); (try rfl))
theorem p_r5_Sign {p : PV} {e : Option (List S8)} (i : In) (ans : I64) (h : RepE pi s8 p e) : Pure Go.Proofs.Tryz.prog gl 15 [p, pI i, pi ans] (eOut ps (signE e i ans.1)) := by
  have h1 := p_rsigns (gl := gl) i ans h
  have h2 := p_rs4_SetSgn (gl := gl) i.dst i ans h
  have h3 := p_rs4_JoinSign (gl := gl) h h
  have e1 : defI i < 0 → eJoin z8 S8.join e e = signE e i ans.1 := signE_neg
  have e2 : ¬ defI i < 0 → eSet e i.dst (sgS e i ans.1) = signE e i ans.1 := signE_pos
  obtain ⟨on, l, rfl, rfl, hl⟩ := h
  generalize sgI (eAbs s8 on l) i ans.1 = v at *
  generalize eSet (eAbs s8 on l) i.dst (sgS (eAbs s8 on l) i ans.1) = r at *
  generalize eJoin z8 S8.join (eAbs s8 on l) (eAbs s8 on l) = r2 at *
  generalize signE (eAbs s8 on l) i ans.1 = r3 at *
  refine Pure.fn hmix b15 ?_
  repeat' first
    | with_reducible refine tr_seq ?_
    | ((with_reducible refine tr_region_f ?_ ?_); kernel_rfl)
    | ((with_reducible refine tr_region_t ?_ ?_ ?_); kernel_rfl; kernel_rfl)
    | with_reducible refine n_nil ?_
    | with_reducible refine seqQ_normal ?_
    | with_reducible refine seqQ_ret ?_
    | with_reducible refine blkQ_ret ?_
    | with_reducible refine tr_skip ?_
    | with_reducible refine tr_ret ?_
    | ((with_reducible apply tr_cond_e); rfl)
    | with_reducible refine condT_t ?_
    | with_reducible refine condT_f ?_
    | ((with_reducible apply n_call (f := 41)); rfl; rfl; exact h1)
    | ((with_reducible apply n_call (f := 40)); rfl; rfl; exact h2)
    | ((with_reducible apply n_call (f := 39)); rfl; rfl; exact h3)
    | ((with_reducible apply n_val); rfl; rfl)
    | ((with_reducible apply n_new); rfl; (first | (simp only [hn0, hn1, hn2, hn3, hn4, hn5, List.length_cons, List.length_nil, Nat.reduceAdd, Nat.zero_add]; done) | (simp only [hn0, hn1, hn2, hn3, hn4, hn5, List.length_cons, List.length_nil, Nat.reduceAdd, Nat.zero_add]; rfl) | rfl); rfl)
    | ((with_reducible apply n_store); rfl; rfl; rfl; rfl; rfl)
    | ((with_reducible apply n_call (f := 33)); rfl; rfl; exact p_r5_Def ..)
    | (with_reducible refine condT_split (fun h => ?_) (fun h => ?_))
    | ((with_reducible apply fnQ_told_ret); rfl)
    | ((with_reducible apply fnQ_ret_soft); rfl; rfl)
  · rw [e1 (by simpa using h)]
  · rw [e2 (by simpa using h)]
theorem p_law05_theirFlat (on : Bool) (l : List (Int × Int)) (hb : l.length ≤ 1000) : Pure Go.Proofs.Tryz.prog gl 7 [eIn pq on l] (eIn pq on l) := by
  refine Pure.fn hmix b7 ?_
  repeat' first
    | with_reducible refine tr_seq ?_
    | ((with_reducible refine tr_region_f ?_ ?_); kernel_rfl)
    | ((with_reducible refine tr_region_t ?_ ?_ ?_); kernel_rfl; kernel_rfl)
    | with_reducible refine n_nil ?_
    | with_reducible refine seqQ_normal ?_
    | with_reducible refine seqQ_exit ?_
    | with_reducible refine seqQ_ret ?_
    | with_reducible refine blkQ_normal ?_
    | with_reducible refine blkQ_exit ?_
    | with_reducible refine blkQ_ret ?_
    | ((with_reducible refine blkQ_exit_ne ?_ ?_); rfl)
    | with_reducible refine tr_block ?_
    | with_reducible refine tr_skip ?_
    | with_reducible refine tr_exit ?_
    | with_reducible refine tr_ret ?_
    | ((with_reducible apply tr_cond_e); rfl)
    | with_reducible refine condT_t ?_
    | with_reducible refine condT_f ?_
    | with_reducible refine loopV_exit ?_
    | with_reducible refine loopV_ret ?_
    | ((with_reducible apply n_idx_vals ((0, 0) : Int × Int)); rfl; rfl; exact (fun _ => rfl); (first | omega | (simp only [decide_eq_true_eq, decide_eq_false_iff_not, Bool.or_eq_false_iff, Bool.not_eq_true', Bool.not_eq_false', Bool.not_true, Bool.not_false, ints_length, List.length_map, tab_length] at *; omega)))
    | (first | ((with_reducible apply n_bin); rfl; rfl; focus ((with_reducible (first | apply b_add | apply b_sub)) <;> first | omega | (simp only [decide_eq_true_eq, decide_eq_false_iff_not, Bool.or_eq_false_iff, Bool.not_eq_true', Bool.not_eq_false', Bool.not_true, Bool.not_false, ints_length, List.length_map, tab_length] at *; omega))) | ((with_reducible apply n_max); rfl; rfl) | ((with_reducible apply n_min); rfl; rfl))
    | ((with_reducible apply n_append_vals (f := pq) (l.getD k (0, 0))); rfl; rfl; rfl; rfl; rfl; exact (by rw [List.length_take]; omega); (first | omega | (simp only [decide_eq_true_eq, decide_eq_false_iff_not, Bool.or_eq_false_iff, Bool.not_eq_true', Bool.not_eq_false', Bool.not_true, Bool.not_false, ints_length, List.length_map, tab_length] at *; omega)))
    | ((with_reducible apply fnQ_ret_env (f := pq)); rfl; rfl; exact (fun _ => rfl); exact (by rw [List.length_take]; omega))
    | (refine tr_virt_blk 2 1 2 3 rfl (by omega) rfl rfl ?_; refine tr_loop_v (α := Nat) 4 (fun | k => [(4, some (.int .i64 (k : Int))), (8, none), (9, none), (10, none), (11, none), (12, none), (15, none), (16, none), (17, none), (18, none), (19, none), (20, none), (21, none), (22, none), (23, none), (24, none), (25, none), (26, none), (27, none), (28, none), (29, none), (30, none), (31, none), (32, none), (13, none), (14, none)]) (fun | k => [some ⟨0, 2, [eIn pq on l]⟩, some ⟨0, 2, [.agg [.bool false, .lit []]]⟩, some ⟨0, 2, [.agg [.bool on, .ref 3 k 0 k]]⟩, some ⟨k, 2, (l.take k).map pq⟩]) (fun | k => k ≤ l.length) (fun | k => l.length - k) (0) (ks := [4, 8, 9, 10, 11, 12, 15, 16, 17, 18, 19, 20, 21, 22, 23, 24, 25, 26, 27, 28, 29, 30, 31, 32, 13, 14]) (fun _ => rfl) (fun _ => rfl) rfl (by omega) ?_ ⟨⟨_, rfl, rfl⟩, trivial⟩ ⟨⟨_, rfl, rfl, rfl, (by first | exact fzP_vals (fun _ => rfl) (take_snoc1 (by first | omega | (simp only [decide_eq_true_eq, decide_eq_false_iff_not, Bool.or_eq_false_iff, Bool.not_eq_true', Bool.not_eq_false', Bool.not_true, Bool.not_false, ints_length, List.length_map, tab_length] at *; omega)) ((0, 0) : Int × Int)) |  rfl | exact fzP_pure (ints_pure _) | exact fzP_pure (u64s_pure _) | exact fzP_pure (by assumption) | exact fzP_pure (by first | (simp [pureE, pure1, ints]; done) | (simp_all [pe_int, pe_bool, pe_str, pe_sl, pe_agg, p1_int, p1_bool, p1_str, p1_sl]; done)))⟩, ⟨_, rfl, rfl, rfl, (by first | exact fzP_vals (fun _ => rfl) (take_snoc1 (by first | omega | (simp only [decide_eq_true_eq, decide_eq_false_iff_not, Bool.or_eq_false_iff, Bool.not_eq_true', Bool.not_eq_false', Bool.not_true, Bool.not_false, ints_length, List.length_map, tab_length] at *; omega)) ((0, 0) : Int × Int)) |  rfl | exact fzP_pure (ints_pure _) | exact fzP_pure (u64s_pure _) | exact fzP_pure (by assumption) | exact fzP_pure (by first | (simp [pureE, pure1, ints]; done) | (simp_all [pe_int, pe_bool, pe_str, pe_sl, pe_agg, p1_int, p1_bool, p1_str, p1_sl]; done)))⟩, ⟨_, rfl, rfl, rfl, (by first | exact fzP_vals (fun _ => rfl) (take_snoc1 (by first | omega | (simp only [decide_eq_true_eq, decide_eq_false_iff_not, Bool.or_eq_false_iff, Bool.not_eq_true', Bool.not_eq_false', Bool.not_true, Bool.not_false, ints_length, List.length_map, tab_length] at *; omega)) ((0, 0) : Int × Int)) |  rfl | exact fzP_pure (ints_pure _) | exact fzP_pure (u64s_pure _) | exact fzP_pure (by assumption) | exact fzP_pure (by first | (simp [pureE, pure1, ints]; done) | (simp_all [pe_int, pe_bool, pe_str, pe_sl, pe_agg, p1_int, p1_bool, p1_str, p1_sl]; done)))⟩, ⟨_, rfl, rfl, rfl, (by first | exact fzP_vals (fun _ => rfl) (take_snoc1 (by first | omega | (simp only [decide_eq_true_eq, decide_eq_false_iff_not, Bool.or_eq_false_iff, Bool.not_eq_true', Bool.not_eq_false', Bool.not_true, Bool.not_false, ints_length, List.length_map, tab_length] at *; omega)) ((0, 0) : Int × Int)) |  rfl | exact fzP_pure (ints_pure _) | exact fzP_pure (u64s_pure _) | exact fzP_pure (by assumption) | exact fzP_pure (by first | (simp [pureE, pure1, ints]; done) | (simp_all [pe_int, pe_bool, pe_str, pe_sl, pe_agg, p1_int, p1_bool, p1_str, p1_sl]; done)))⟩, trivial⟩ ?_; rotate_left; rintro k hx; try dsimp only at hx)
    | ((first | (refine loopV_normal (k + 1) ?_ ⟨⟨_, rfl, rfl⟩, trivial⟩ ⟨⟨_, rfl, rfl, rfl, (by first | exact fzP_vals (fun _ => rfl) (take_snoc1 (by first | omega | (simp only [decide_eq_true_eq, decide_eq_false_iff_not, Bool.or_eq_false_iff, Bool.not_eq_true', Bool.not_eq_false', Bool.not_true, Bool.not_false, ints_length, List.length_map, tab_length] at *; omega)) ((0, 0) : Int × Int)) |  rfl | exact fzP_pure (ints_pure _) | exact fzP_pure (u64s_pure _) | exact fzP_pure (by assumption) | exact fzP_pure (by first | (simp [pureE, pure1, ints]; done) | (simp_all [pe_int, pe_bool, pe_str, pe_sl, pe_agg, p1_int, p1_bool, p1_str, p1_sl]; done)))⟩, ⟨_, rfl, rfl, rfl, (by first | exact fzP_vals (fun _ => rfl) (take_snoc1 (by first | omega | (simp only [decide_eq_true_eq, decide_eq_false_iff_not, Bool.or_eq_false_iff, Bool.not_eq_true', Bool.not_eq_false', Bool.not_true, Bool.not_false, ints_length, List.length_map, tab_length] at *; omega)) ((0, 0) : Int × Int)) |  rfl | exact fzP_pure (ints_pure _) | exact fzP_pure (u64s_pure _) | exact fzP_pure (by assumption) | exact fzP_pure (by first | (simp [pureE, pure1, ints]; done) | (simp_all [pe_int, pe_bool, pe_str, pe_sl, pe_agg, p1_int, p1_bool, p1_str, p1_sl]; done)))⟩, ⟨_, rfl, rfl, rfl, (by first | exact fzP_vals (fun _ => rfl) (take_snoc1 (by first | omega | (simp only [decide_eq_true_eq, decide_eq_false_iff_not, Bool.or_eq_false_iff, Bool.not_eq_true', Bool.not_eq_false', Bool.not_true, Bool.not_false, ints_length, List.length_map, tab_length] at *; omega)) ((0, 0) : Int × Int)) |  rfl | exact fzP_pure (ints_pure _) | exact fzP_pure (u64s_pure _) | exact fzP_pure (by assumption) | exact fzP_pure (by first | (simp [pureE, pure1, ints]; done) | (simp_all [pe_int, pe_bool, pe_str, pe_sl, pe_agg, p1_int, p1_bool, p1_str, p1_sl]; done)))⟩, ⟨_, rfl, rfl, rfl, (by first | exact fzP_vals (fun _ => rfl) (take_snoc1 (by first | omega | (simp only [decide_eq_true_eq, decide_eq_false_iff_not, Bool.or_eq_false_iff, Bool.not_eq_true', Bool.not_eq_false', Bool.not_true, Bool.not_false, ints_length, List.length_map, tab_length] at *; omega)) ((0, 0) : Int × Int)) |  rfl | exact fzP_pure (ints_pure _) | exact fzP_pure (u64s_pure _) | exact fzP_pure (by assumption) | exact fzP_pure (by first | (simp [pureE, pure1, ints]; done) | (simp_all [pe_int, pe_bool, pe_str, pe_sl, pe_agg, p1_int, p1_bool, p1_str, p1_sl]; done)))⟩, trivial⟩ ?_ ?_)); repeat (first | exact only_refl | refine only_put rfl ?_ | refine only_less rfl ?_ | refine only_ov rfl ?_))
    | ((with_reducible apply n_val); rfl; rfl)
    | ((with_reducible apply n_new); rfl; (first | (simp only [hn0, hn1, hn2, hn3, hn4, hn5, List.length_cons, List.length_nil, Nat.reduceAdd, Nat.zero_add]; done) | (simp only [hn0, hn1, hn2, hn3, hn4, hn5, List.length_cons, List.length_nil, Nat.reduceAdd, Nat.zero_add]; rfl) | rfl); rfl)
    | ((with_reducible apply n_store); rfl; rfl; rfl; rfl; rfl)
    | ((with_reducible apply n_append); rfl; rfl; rfl; rfl; rfl; rfl; (first | decide | (simp only [List.length_append, List.length_cons, List.length_nil, List.length_set, List.length_replicate, ints_length] at *; omega)); rfl)
    | ((with_reducible apply n_append_lit); rfl; rfl; rfl; rfl; rfl; (first | decide | (simp only [List.length_append, List.length_cons, List.length_nil, List.length_set, List.length_replicate, ints_length] at *; omega)); (first | (simp only [hn0, hn1, hn2, hn3, hn4, hn5, List.length_cons, List.length_nil, Nat.reduceAdd, Nat.zero_add]; done) | (simp only [hn0, hn1, hn2, hn3, hn4, hn5, List.length_cons, List.length_nil, Nat.reduceAdd, Nat.zero_add]; rfl) | rfl); rfl)
    | (with_reducible refine condT_split (fun h => ?_) (fun h => ?_))
    | ((with_reducible apply fnQ_told_ret); rfl)
    | ((with_reducible apply fnQ_ret_soft); rfl; rfl)
    | ((with_reducible apply fnQ_ret_row); rfl; rfl; rfl)
  all_goals (try dsimp only at *)
  all_goals (try simp only [decide_eq_true_eq, decide_eq_false_iff_not, List.length_map] at *)
  · omega
  · omega
  · rw [List.take_of_length_le (by omega)]
  · omega
theorem p_law05_theirE (e : Option (List V3)) (he : Few e) : Pure Go.Proofs.Tryz.prog gl 7 [eOut pv e] (eOut pv e) := by
  rw [eOut_in]
  exact p_law05_theirFlat _ _ (by unfold Few at he; rw [List.length_map]; omega)
theorem p_law05_theirSign (on : Bool) (l : List I64) : Pure Go.Proofs.Tryz.prog gl 12 [eIn pi on l] (eIn pi on l) := by
  refine Pure.fn hmix b12 ?_
  repeat' first
    | with_reducible refine tr_seq ?_
    | ((with_reducible refine tr_region_f ?_ ?_); kernel_rfl)
    | with_reducible refine n_nil ?_
    | with_reducible refine seqQ_normal ?_
    | with_reducible refine seqQ_ret ?_
    | with_reducible refine blkQ_ret ?_
    | with_reducible refine tr_ret ?_
    | ((with_reducible apply n_val); rfl; rfl)
    | ((with_reducible apply n_new); rfl; (first | (simp only [hn0, hn1, hn2, hn3, hn4, hn5, List.length_cons, List.length_nil, Nat.reduceAdd, Nat.zero_add]; done) | (simp only [hn0, hn1, hn2, hn3, hn4, hn5, List.length_cons, List.length_nil, Nat.reduceAdd, Nat.zero_add]; rfl) | rfl); rfl)
    | ((with_reducible apply n_store); rfl; rfl; rfl; rfl; rfl)
    | ((with_reducible apply fnQ_told_ret); rfl)
    | ((with_reducible apply fnQ_ret_soft); rfl; rfl)
  rfl
theorem p_law05_theirS (e : Option (List S8)) : Pure Go.Proofs.Tryz.prog gl 12 [eOut ps e] (eOut ps e) := by
  rw [eOutS_in]
  exact p_law05_theirSign _ _
theorem p_law05_ourSign (on : Bool) (l : List I64) : Pure Go.Proofs.Tryz.prog gl 14 [eIn pi on l] (eIn pi on l) := by
  refine Pure.fn hmix b14 ?_
  repeat' first
    | with_reducible refine tr_seq ?_
    | ((with_reducible refine tr_region_f ?_ ?_); kernel_rfl)
    | with_reducible refine n_nil ?_
    | with_reducible refine seqQ_normal ?_
    | with_reducible refine seqQ_ret ?_
    | with_reducible refine blkQ_ret ?_
    | with_reducible refine tr_ret ?_
    | ((with_reducible apply n_val); rfl; rfl)
    | ((with_reducible apply n_new); rfl; (first | (simp only [hn0, hn1, hn2, hn3, hn4, hn5, List.length_cons, List.length_nil, Nat.reduceAdd, Nat.zero_add]; done) | (simp only [hn0, hn1, hn2, hn3, hn4, hn5, List.length_cons, List.length_nil, Nat.reduceAdd, Nat.zero_add]; rfl) | rfl); rfl)
    | ((with_reducible apply n_store); rfl; rfl; rfl; rfl; rfl)
    | ((with_reducible apply fnQ_told_ret); rfl)
    | ((with_reducible apply fnQ_ret_soft); rfl; rfl)
  rfl
end
theorem p_signs {p : PV} {e : Option (List S8)} (i : In) (ans : I64) (h : RepE pi s8 p e) : Pure Go.Proofs.Tryz.prog glD 38 [p, pI i, pi ans] (.int .i64 (sgI e i ans.1)) := by
  have hn := p_instr_Name i.kind
  have hA := p_env_GetSign (gl := glD) i.a h
  have hB := p_env_GetSign (gl := glD) i.b h
  have hv : sgI e i ans.1 = sgI e i ans.1 := rfl
  conv at hv => rhs; rw [sgI]
  rw [hv]
  clear hv
  obtain ⟨on, l, rfl, rfl, hl⟩ := h
  generalize eGet z8 (eAbs s8 on l) i.a = va at *
  generalize eGet z8 (eAbs s8 on l) i.b = vb at *
  obtain ⟨id, k, dst, ia, ib, c, f, n, x, y, z⟩ := i
  simp only at hn hA hB ⊢
  rcases kind_cases k with rfl | rfl | rfl | rfl | rfl | rfl | rfl | rfl | rfl | rfl | h
  case inr.inr.inr.inr.inr.inr.inr.inr.inr.inr =>
    rw [show nm k = bs0 by rw [nm, if_neg (by omega)]] at hn
    refine Pure.fn hmix b38 ?_
    repeat' first
      | with_reducible refine tr_seq ?_
      | ((with_reducible refine tr_region_f ?_ ?_); kernel_rfl)
      | ((with_reducible refine tr_region_t ?_ ?_ ?_); kernel_rfl; kernel_rfl)
      | with_reducible refine n_nil ?_
      | with_reducible refine seqQ_normal ?_
      | with_reducible refine seqQ_ret ?_
      | with_reducible refine blkQ_normal ?_
      | with_reducible refine blkQ_ret ?_
      | with_reducible refine tr_block ?_
      | with_reducible refine tr_skip ?_
      | with_reducible refine tr_ret ?_
      | ((with_reducible apply tr_cond_e); rfl)
      | with_reducible refine condT_t ?_
      | with_reducible refine condT_f ?_
      | ((with_reducible refine condT_T ?_ ?_); decide +kernel)
      | ((with_reducible refine condT_F ?_ ?_); decide +kernel)
      | ((with_reducible apply n_andF); rfl; rfl; decide +kernel)
      | ((with_reducible apply n_orT); rfl; rfl; decide +kernel)
      | with_reducible refine unrQ_normal ?_
      | with_reducible refine unrQ_exit ?_
      | with_reducible refine unrQ_ret ?_
      | ((with_reducible apply n_call (f := 30)); rfl; rfl; exact hn)
      | ((with_reducible apply n_call (f := 79)); rfl; rfl; (first | exact hA | exact hB))
      | ((with_reducible apply n_val); rfl; rfl)
      | ((with_reducible apply n_new); rfl; (first | (simp only [hn0, hn1, hn2, hn3, hn4, hn5, List.length_cons, List.length_nil, Nat.reduceAdd, Nat.zero_add]; done) | (simp only [hn0, hn1, hn2, hn3, hn4, hn5, List.length_cons, List.length_nil, Nat.reduceAdd, Nat.zero_add]; rfl) | rfl); rfl)
      | ((with_reducible apply n_call (f := 80)); rfl; rfl; exact p_sign_Of ..)
      | ((with_reducible apply n_call (f := 81)); rfl; rfl; exact p_sign_NegV ..)
      | ((with_reducible apply n_call (f := 82)); rfl; rfl; exact p_sign_AddV ..)
      | ((with_reducible apply n_call (f := 83)); rfl; rfl; exact p_sign_SubV ..)
      | ((with_reducible apply n_call (f := 84)); rfl; rfl; exact p_sign_MulV ..)
      | (with_reducible refine condT_split (fun h => ?_) (fun h => ?_))
      | ((with_reducible apply fnQ_told_ret); rfl)
      | ((with_reducible apply fnQ_ret_soft); rfl; rfl)
    rw [if_neg (by omega), if_neg (by omega), if_neg (by omega), if_neg (by omega), if_neg (by omega), if_neg (by omega), if_neg (by omega)]
  all_goals
    refine Pure.fn hmix b38 ?_
    repeat' first
      | with_reducible refine tr_seq ?_
      | ((with_reducible refine tr_region_f ?_ ?_); kernel_rfl)
      | ((with_reducible refine tr_region_t ?_ ?_ ?_); kernel_rfl; kernel_rfl)
      | with_reducible refine n_nil ?_
      | with_reducible refine seqQ_normal ?_
      | with_reducible refine seqQ_ret ?_
      | with_reducible refine blkQ_normal ?_
      | with_reducible refine blkQ_ret ?_
      | with_reducible refine tr_block ?_
      | with_reducible refine tr_skip ?_
      | with_reducible refine tr_ret ?_
      | ((with_reducible apply tr_cond_e); rfl)
      | with_reducible refine condT_t ?_
      | with_reducible refine condT_f ?_
      | ((with_reducible refine condT_T ?_ ?_); decide +kernel)
      | ((with_reducible refine condT_F ?_ ?_); decide +kernel)
      | ((with_reducible apply n_andF); rfl; rfl; decide +kernel)
      | ((with_reducible apply n_orT); rfl; rfl; decide +kernel)
      | with_reducible refine unrQ_normal ?_
      | with_reducible refine unrQ_exit ?_
      | with_reducible refine unrQ_ret ?_
      | ((with_reducible apply n_call (f := 30)); rfl; rfl; exact hn)
      | ((with_reducible apply n_call (f := 79)); rfl; rfl; (first | exact hA | exact hB))
      | ((with_reducible apply n_val); rfl; rfl)
      | ((with_reducible apply n_new); rfl; (first | (simp only [hn0, hn1, hn2, hn3, hn4, hn5, List.length_cons, List.length_nil, Nat.reduceAdd, Nat.zero_add]; done) | (simp only [hn0, hn1, hn2, hn3, hn4, hn5, List.length_cons, List.length_nil, Nat.reduceAdd, Nat.zero_add]; rfl) | rfl); rfl)
      | ((with_reducible apply n_call (f := 80)); rfl; rfl; exact p_sign_Of ..)
      | ((with_reducible apply n_call (f := 81)); rfl; rfl; exact p_sign_NegV ..)
      | ((with_reducible apply n_call (f := 82)); rfl; rfl; exact p_sign_AddV ..)
      | ((with_reducible apply n_call (f := 83)); rfl; rfl; exact p_sign_SubV ..)
      | ((with_reducible apply n_call (f := 84)); rfl; rfl; exact p_sign_MulV ..)
      | (with_reducible refine condT_split (fun h => ?_) (fun h => ?_))
      | ((with_reducible apply fnQ_told_ret); rfl)
      | ((with_reducible apply fnQ_ret_soft); rfl; rfl)
    rfl
theorem p_Sign {p : PV} {e : Option (List S8)} (i : In) (ans : I64) (h : RepE pi s8 p e) : Pure Go.Proofs.Tryz.prog glD 13 [p, pI i, pi ans] (eOut ps (signE e i ans.1)) := by
  have h1 := p_signs i ans h
  have h2 := p_env_SetSgn (gl := glD) (defI i) i ans h
  rw [signE]
  obtain ⟨on, l, rfl, rfl, hl⟩ := h
  generalize sgI (eAbs s8 on l) i ans.1 = v at *
  generalize eSet (eAbs s8 on l) (defI i) (sgS (eAbs s8 on l) i ans.1) = r at *
  refine Pure.fn hmix b13 ?_
  repeat' first
    | with_reducible refine tr_seq ?_
    | ((with_reducible refine tr_region_f ?_ ?_); kernel_rfl)
    | ((with_reducible refine tr_region_t ?_ ?_ ?_); kernel_rfl; kernel_rfl)
    | with_reducible refine n_nil ?_
    | with_reducible refine seqQ_normal ?_
    | with_reducible refine seqQ_ret ?_
    | with_reducible refine blkQ_ret ?_
    | with_reducible refine tr_ret ?_
    | ((with_reducible apply n_call (f := 38)); rfl; rfl; exact h1)
    | ((with_reducible apply n_call (f := 37)); rfl; rfl; exact h2)
    | ((with_reducible apply n_val); rfl; rfl)
    | ((with_reducible apply n_new); rfl; (first | (simp only [hn0, hn1, hn2, hn3, hn4, hn5, List.length_cons, List.length_nil, Nat.reduceAdd, Nat.zero_add]; done) | (simp only [hn0, hn1, hn2, hn3, hn4, hn5, List.length_cons, List.length_nil, Nat.reduceAdd, Nat.zero_add]; rfl) | rfl); rfl)
    | ((with_reducible apply n_store); rfl; rfl; rfl; rfl; rfl)
    | ((with_reducible apply n_call (f := 27)); rfl; rfl; exact p_Def ..)
    | ((with_reducible apply fnQ_told_ret); rfl)
    | ((with_reducible apply fnQ_ret_soft); rfl; rfl)
  rfl
theorem l_InstrEnvs (oa ob : Bool) (l : List (Int × Int)) (m : List I64) (i : In) (ans : I64) : Pure Go.Proofs.Tryz.prog glD 3 [eIn pq oa l, eIn pi ob m, pI i, pi ans] (.bool true) := by
  refine Pure.fn hmix b3 ?_
  repeat' first
    | with_reducible refine tr_seq ?_
    | ((with_reducible refine tr_region_f ?_ ?_); kernel_rfl)
    | ((with_reducible refine tr_region_t ?_ ?_ ?_); kernel_rfl; kernel_rfl)
    | with_reducible refine n_nil ?_
    | exact ⟨rfl, rfl⟩
    | with_reducible refine seqQ_normal ?_
    | with_reducible refine seqQ_ret ?_
    | with_reducible refine blkQ_ret ?_
    | with_reducible refine tr_skip ?_
    | with_reducible refine tr_ret ?_
    | ((with_reducible apply tr_cond_e); rfl)
    | with_reducible refine condT_t ?_
    | with_reducible refine condT_f ?_
    | ((with_reducible apply n_and); rfl; rfl; intro h)
    | ((with_reducible apply n_or); rfl; rfl; intro h)
    | ((with_reducible apply n_val); rfl; rfl)
    | ((with_reducible apply n_new); rfl; (first | (simp only [hn0, hn1, hn2, hn3, hn4, hn5, List.length_cons, List.length_nil, Nat.reduceAdd, Nat.zero_add]; done) | (simp only [hn0, hn1, hn2, hn3, hn4, hn5, List.length_cons, List.length_nil, Nat.reduceAdd, Nat.zero_add]; rfl) | rfl); rfl)
    | ((with_reducible apply n_call (f := 5)); rfl; rfl; exact p_law05_awake)
    | ((with_reducible apply n_call (f := 9)); rfl; rfl; exact p_law05_ourFlat _ _ (by first | omega | (simp only [decide_eq_true_eq, decide_eq_false_iff_not, Bool.or_eq_false_iff, Bool.not_eq_true', Bool.not_eq_false', Bool.not_true, Bool.not_false, ints_length, List.length_map, tab_length] at *; omega)))
    | ((with_reducible apply n_call (f := 7)); rfl; rfl; exact p_law05_theirE _ (by repeat (first | assumption | exact few_all | exact few_none | apply few_flatE | apply few_signE | apply few_join | apply few_set | exact (rep_inF _ _ (by first | omega | (simp only [decide_eq_true_eq, decide_eq_false_iff_not, Bool.or_eq_false_iff, Bool.not_eq_true', Bool.not_eq_false', Bool.not_true, Bool.not_false, ints_length, List.length_map, tab_length] at *; omega))).few | exact (rep_inS _ _ (by first | omega | (simp only [decide_eq_true_eq, decide_eq_false_iff_not, Bool.or_eq_false_iff, Bool.not_eq_true', Bool.not_eq_false', Bool.not_true, Bool.not_false, ints_length, List.length_map, tab_length] at *; omega))).few)))
    | ((with_reducible apply n_call (f := 14)); rfl; rfl; exact p_law05_ourSign ..)
    | ((with_reducible apply n_call (f := 12)); rfl; rfl; exact p_law05_theirS ..)
    | ((with_reducible apply n_call (f := 8)); rfl; rfl; exact p_Flat _ (by first | exact rep_inF _ _ (by first | omega | (simp only [decide_eq_true_eq, decide_eq_false_iff_not, Bool.or_eq_false_iff, Bool.not_eq_true', Bool.not_eq_false', Bool.not_true, Bool.not_false, ints_length, List.length_map, tab_length] at *; omega)) | exact rep_inS _ _ (by first | omega | (simp only [decide_eq_true_eq, decide_eq_false_iff_not, Bool.or_eq_false_iff, Bool.not_eq_true', Bool.not_eq_false', Bool.not_true, Bool.not_false, ints_length, List.length_map, tab_length] at *; omega)) | (refine rep_outF ?_; repeat (first | assumption | exact few_all | exact few_none | apply few_flatE | apply few_signE | apply few_join | apply few_set | exact (rep_inF _ _ (by first | omega | (simp only [decide_eq_true_eq, decide_eq_false_iff_not, Bool.or_eq_false_iff, Bool.not_eq_true', Bool.not_eq_false', Bool.not_true, Bool.not_false, ints_length, List.length_map, tab_length] at *; omega))).few | exact (rep_inS _ _ (by first | omega | (simp only [decide_eq_true_eq, decide_eq_false_iff_not, Bool.or_eq_false_iff, Bool.not_eq_true', Bool.not_eq_false', Bool.not_true, Bool.not_false, ints_length, List.length_map, tab_length] at *; omega))).few)) | (refine rep_outS ?_; repeat (first | assumption | exact few_all | exact few_none | apply few_flatE | apply few_signE | apply few_join | apply few_set | exact (rep_inF _ _ (by first | omega | (simp only [decide_eq_true_eq, decide_eq_false_iff_not, Bool.or_eq_false_iff, Bool.not_eq_true', Bool.not_eq_false', Bool.not_true, Bool.not_false, ints_length, List.length_map, tab_length] at *; omega))).few | exact (rep_inS _ _ (by first | omega | (simp only [decide_eq_true_eq, decide_eq_false_iff_not, Bool.or_eq_false_iff, Bool.not_eq_true', Bool.not_eq_false', Bool.not_true, Bool.not_false, ints_length, List.length_map, tab_length] at *; omega))).few))))
    | ((with_reducible apply n_call (f := 10)); rfl; rfl; exact p_r5_Flat _ (by first | exact rep_inF _ _ (by first | omega | (simp only [decide_eq_true_eq, decide_eq_false_iff_not, Bool.or_eq_false_iff, Bool.not_eq_true', Bool.not_eq_false', Bool.not_true, Bool.not_false, ints_length, List.length_map, tab_length] at *; omega)) | exact rep_inS _ _ (by first | omega | (simp only [decide_eq_true_eq, decide_eq_false_iff_not, Bool.or_eq_false_iff, Bool.not_eq_true', Bool.not_eq_false', Bool.not_true, Bool.not_false, ints_length, List.length_map, tab_length] at *; omega)) | (refine rep_outF ?_; repeat (first | assumption | exact few_all | exact few_none | apply few_flatE | apply few_signE | apply few_join | apply few_set | exact (rep_inF _ _ (by first | omega | (simp only [decide_eq_true_eq, decide_eq_false_iff_not, Bool.or_eq_false_iff, Bool.not_eq_true', Bool.not_eq_false', Bool.not_true, Bool.not_false, ints_length, List.length_map, tab_length] at *; omega))).few | exact (rep_inS _ _ (by first | omega | (simp only [decide_eq_true_eq, decide_eq_false_iff_not, Bool.or_eq_false_iff, Bool.not_eq_true', Bool.not_eq_false', Bool.not_true, Bool.not_false, ints_length, List.length_map, tab_length] at *; omega))).few)) | (refine rep_outS ?_; repeat (first | assumption | exact few_all | exact few_none | apply few_flatE | apply few_signE | apply few_join | apply few_set | exact (rep_inF _ _ (by first | omega | (simp only [decide_eq_true_eq, decide_eq_false_iff_not, Bool.or_eq_false_iff, Bool.not_eq_true', Bool.not_eq_false', Bool.not_true, Bool.not_false, ints_length, List.length_map, tab_length] at *; omega))).few | exact (rep_inS _ _ (by first | omega | (simp only [decide_eq_true_eq, decide_eq_false_iff_not, Bool.or_eq_false_iff, Bool.not_eq_true', Bool.not_eq_false', Bool.not_true, Bool.not_false, ints_length, List.length_map, tab_length] at *; omega))).few))))
    | ((with_reducible apply n_call (f := 13)); rfl; rfl; exact p_Sign _ ans (by first | exact rep_inF _ _ (by first | omega | (simp only [decide_eq_true_eq, decide_eq_false_iff_not, Bool.or_eq_false_iff, Bool.not_eq_true', Bool.not_eq_false', Bool.not_true, Bool.not_false, ints_length, List.length_map, tab_length] at *; omega)) | exact rep_inS _ _ (by first | omega | (simp only [decide_eq_true_eq, decide_eq_false_iff_not, Bool.or_eq_false_iff, Bool.not_eq_true', Bool.not_eq_false', Bool.not_true, Bool.not_false, ints_length, List.length_map, tab_length] at *; omega)) | (refine rep_outF ?_; repeat (first | assumption | exact few_all | exact few_none | apply few_flatE | apply few_signE | apply few_join | apply few_set | exact (rep_inF _ _ (by first | omega | (simp only [decide_eq_true_eq, decide_eq_false_iff_not, Bool.or_eq_false_iff, Bool.not_eq_true', Bool.not_eq_false', Bool.not_true, Bool.not_false, ints_length, List.length_map, tab_length] at *; omega))).few | exact (rep_inS _ _ (by first | omega | (simp only [decide_eq_true_eq, decide_eq_false_iff_not, Bool.or_eq_false_iff, Bool.not_eq_true', Bool.not_eq_false', Bool.not_true, Bool.not_false, ints_length, List.length_map, tab_length] at *; omega))).few)) | (refine rep_outS ?_; repeat (first | assumption | exact few_all | exact few_none | apply few_flatE | apply few_signE | apply few_join | apply few_set | exact (rep_inF _ _ (by first | omega | (simp only [decide_eq_true_eq, decide_eq_false_iff_not, Bool.or_eq_false_iff, Bool.not_eq_true', Bool.not_eq_false', Bool.not_true, Bool.not_false, ints_length, List.length_map, tab_length] at *; omega))).few | exact (rep_inS _ _ (by first | omega | (simp only [decide_eq_true_eq, decide_eq_false_iff_not, Bool.or_eq_false_iff, Bool.not_eq_true', Bool.not_eq_false', Bool.not_true, Bool.not_false, ints_length, List.length_map, tab_length] at *; omega))).few))))
    | ((with_reducible apply n_call (f := 15)); rfl; rfl; exact p_r5_Sign _ ans (by first | exact rep_inF _ _ (by first | omega | (simp only [decide_eq_true_eq, decide_eq_false_iff_not, Bool.or_eq_false_iff, Bool.not_eq_true', Bool.not_eq_false', Bool.not_true, Bool.not_false, ints_length, List.length_map, tab_length] at *; omega)) | exact rep_inS _ _ (by first | omega | (simp only [decide_eq_true_eq, decide_eq_false_iff_not, Bool.or_eq_false_iff, Bool.not_eq_true', Bool.not_eq_false', Bool.not_true, Bool.not_false, ints_length, List.length_map, tab_length] at *; omega)) | (refine rep_outF ?_; repeat (first | assumption | exact few_all | exact few_none | apply few_flatE | apply few_signE | apply few_join | apply few_set | exact (rep_inF _ _ (by first | omega | (simp only [decide_eq_true_eq, decide_eq_false_iff_not, Bool.or_eq_false_iff, Bool.not_eq_true', Bool.not_eq_false', Bool.not_true, Bool.not_false, ints_length, List.length_map, tab_length] at *; omega))).few | exact (rep_inS _ _ (by first | omega | (simp only [decide_eq_true_eq, decide_eq_false_iff_not, Bool.or_eq_false_iff, Bool.not_eq_true', Bool.not_eq_false', Bool.not_true, Bool.not_false, ints_length, List.length_map, tab_length] at *; omega))).few)) | (refine rep_outS ?_; repeat (first | assumption | exact few_all | exact few_none | apply few_flatE | apply few_signE | apply few_join | apply few_set | exact (rep_inF _ _ (by first | omega | (simp only [decide_eq_true_eq, decide_eq_false_iff_not, Bool.or_eq_false_iff, Bool.not_eq_true', Bool.not_eq_false', Bool.not_true, Bool.not_false, ints_length, List.length_map, tab_length] at *; omega))).few | exact (rep_inS _ _ (by first | omega | (simp only [decide_eq_true_eq, decide_eq_false_iff_not, Bool.or_eq_false_iff, Bool.not_eq_true', Bool.not_eq_false', Bool.not_true, Bool.not_false, ints_length, List.length_map, tab_length] at *; omega))).few))))
    | ((with_reducible apply n_call (f := 6)); rfl; rfl; exact p_sameE _ _ (by repeat (first | assumption | exact few_all | exact few_none | apply few_flatE | apply few_signE | apply few_join | apply few_set | exact (rep_inF _ _ (by first | omega | (simp only [decide_eq_true_eq, decide_eq_false_iff_not, Bool.or_eq_false_iff, Bool.not_eq_true', Bool.not_eq_false', Bool.not_true, Bool.not_false, ints_length, List.length_map, tab_length] at *; omega))).few | exact (rep_inS _ _ (by first | omega | (simp only [decide_eq_true_eq, decide_eq_false_iff_not, Bool.or_eq_false_iff, Bool.not_eq_true', Bool.not_eq_false', Bool.not_true, Bool.not_false, ints_length, List.length_map, tab_length] at *; omega))).few)))
    | ((with_reducible apply n_call (f := 11)); rfl; rfl; exact p_sameS _ _ (by repeat (first | assumption | exact few_all | exact few_none | apply few_flatE | apply few_signE | apply few_join | apply few_set | exact (rep_inF _ _ (by first | omega | (simp only [decide_eq_true_eq, decide_eq_false_iff_not, Bool.or_eq_false_iff, Bool.not_eq_true', Bool.not_eq_false', Bool.not_true, Bool.not_false, ints_length, List.length_map, tab_length] at *; omega))).few | exact (rep_inS _ _ (by first | omega | (simp only [decide_eq_true_eq, decide_eq_false_iff_not, Bool.or_eq_false_iff, Bool.not_eq_true', Bool.not_eq_false', Bool.not_true, Bool.not_false, ints_length, List.length_map, tab_length] at *; omega))).few)))
    | (with_reducible refine condT_split (fun h => ?_) (fun h => ?_))
    | ((with_reducible apply fnQ_told_ret); rfl)
    | ((with_reducible apply fnQ_ret_soft); rfl; rfl)
  · rfl
  · simp
end Go.Vm
end
