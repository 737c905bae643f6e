/- Laid. -/
import Derived.Test.YtlcbceneacnaiaaVmThree
import Derived.KernelRfl
import Derived.Test.YtlcbceneacnaiaaProg
/- Code. -/
set_option maxRecDepth 100000
set_option linter.unusedSimpArgs false
set_option linter.unusedVariables false
namespace Go.Vm
open Go

/-- bywash/bywashlaw04.ourFlat -/
def c10 : RFn := ⟨(.seq (.region (Nodes.flat none (.op (some 1) (.box (.t 0)) 0
  (.op (some 2) (.alloc (.agg [(.bool false), (.lit [])])) 0
  .nil))) false)
 (.seq (.region (Nodes.flat none (.op (some 5) (.fieldAddr 0 (.t 1)) 0
  (.op (some 6) (.load none (.t 5)) 0
  (.op (some 7) (.build [(.bool false), (.lit [])] [(0, 1, (.t 6))]) 0
  (.op (some 3) (.alloc (.agg [(.bool false), (.lit [])])) 0
  (.op none (.store 2 (.t 3) (.t 7)) 0
  .nil)))))) false)
 (.seq (.seq (.region (Nodes.flat none (.op (some 4) (.move (.c (.int .i64 0))) 0
  .nil)) false)
 (.block 0 (.loop (.seq (.seq (.region (Nodes.flat none (.op (some 8) (.move (.t 4)) 0
  (.op (some 9) (.fieldAddr 1 (.t 1)) 0
  (.op (some 10) (.load none (.t 9)) 0
  (.op (some 11) (.len false (.t 10)) 0
  (.op (some 12) (.bin .lss (.t 8) (.t 11)) 0
  .nil)))))) false)
 (.cond (.t 12)
 .skip
 (.exit 0)))
 (.seq (.block 1 (.region (Nodes.flat none (.op (some 15) (.fieldAddr 1 (.t 3)) 0
  (.op (some 16) (.load none (.t 15)) 1
  (.op (some 17) (.fieldAddr 1 (.t 1)) 0
  (.op (some 18) (.load none (.t 17)) 4
  (.op (some 19) (.move (.t 4)) 0
  (.op (some 20) (.idxAddr 2 (.t 18) (.t 19)) 28
  (.op (some 21) (.fieldAddr 0 (.t 20)) 60
  (.op (some 22) (.load none (.t 21)) 124
  (.op (some 23) (.fieldAddr 1 (.t 1)) 0
  (.op (some 24) (.load none (.t 23)) 256
  (.op (some 25) (.move (.t 4)) 0
  (.op (some 26) (.idxAddr 2 (.t 24) (.t 25)) 1792
  (.op (some 27) (.fieldAddr 1 (.t 26)) 3840
  (.op (some 28) (.load none (.t 27)) 7936
  (.op (some 29) (.build [(.int .i64 0), (.int .i64 0)] [(0, 1, (.t 22)), (1, 1, (.t 28))]) 16380
  (.op (some 30) (.bslice false 2 1 (.agg [(.int .i64 0), (.int .i64 0)]) [(0, (.t 29))]) 32764
  (.op (some 31) (.append 2 (.agg [(.int .i64 0), (.int .i64 0)]) (.t 16) (.t 30)) 65535
  (.op (some 32) (.fieldAddr 1 (.t 3)) 131071
  (.op none (.store 1 (.t 32) (.t 31)) 262143
  .nil)))))))))))))))))))) true))
 (.region (Nodes.flat none (.op (some 13) (.move (.t 4)) 0
  (.op (some 14) (.bin .add (.t 13) (.c (.int .i64 1))) 0
  (.op (some 4) (.move (.t 14)) 0
  .nil)))) false))))))
 (.seq (.region (Nodes.flat none (.op (some 33) (.load (some 2) (.t 3)) 0
  (.op none (.store 2 (.t 2) (.t 33)) 0
  .nil))) false)
 .ret)))),
 [.cell (some 2) 2]⟩
theorem b10 : fnOf Go.Proofs.Try.prog (owOf [(5, 15)]) 10 = some c10 := by kernel_rfl

/-- bywash/bywashref04.SameFlat -/
def c13 : RFn := ⟨(.seq (.region (Nodes.flat none (.op (some 2) (.box (.t 0)) 0
  (.op (some 3) (.box (.t 1)) 0
  (.op (some 4) (.move (.c (.bool false))) 0
  .nil)))) false)
 (.seq (.seq (.region (Nodes.flat none (.op (some 6) (.fieldAddr 0 (.t 2)) 0
  (.op (some 7) (.load none (.t 6)) 0
  (.op (some 8) (.fieldAddr 0 (.t 3)) 0
  (.op (some 9) (.load none (.t 8)) 0
  (.op (some 10) (.binb .neq (.t 7) (.t 9)) 0
  (.op (some 11) (.move (.t 10)) 0
  (.grd 11 false
  (.op (some 12) (.fieldAddr 1 (.t 2)) 0
  (.op (some 13) (.load none (.t 12)) 0
  (.op (some 14) (.len false (.t 13)) 0
  (.op (some 15) (.fieldAddr 1 (.t 3)) 0
  (.op (some 16) (.load none (.t 15)) 0
  (.op (some 17) (.len false (.t 16)) 0
  (.op (some 18) (.bin .neq (.t 14) (.t 17)) 0
  .nil)))))))
  (.op (some 19) (.pick (.t 11) (.c (.bool true)) (.t 18)) 0
  .nil))))))))) false)
 (.cond (.t 19)
 (.seq (.region (Nodes.flat none (.op (some 4) (.move (.c (.bool false))) 0
  .nil)) false)
 .ret)
 .skip))
 (.seq (.seq (.region (Nodes.flat none (.op (some 5) (.move (.c (.int .i64 0))) 0
  .nil)) false)
 (.block 0 (.loop (.seq (.seq (.region (Nodes.flat none (.op (some 20) (.move (.t 5)) 0
  (.op (some 21) (.fieldAddr 1 (.t 2)) 0
  (.op (some 22) (.load none (.t 21)) 0
  (.op (some 23) (.len false (.t 22)) 0
  (.op (some 24) (.bin .lss (.t 20) (.t 23)) 0
  .nil)))))) false)
 (.cond (.t 24)
 .skip
 (.exit 0)))
 (.seq (.block 1 (.seq (.region (Nodes.flat none (.op (some 27) (.fieldAddr 1 (.t 2)) 0
  (.op (some 28) (.load none (.t 27)) 1
  (.op (some 29) (.move (.t 5)) 0
  (.op (some 30) (.idxAddr 2 (.t 28) (.t 29)) 7
  (.op (some 31) (.load (some 2) (.t 30)) 15
  (.op (some 32) (.fieldAddr 1 (.t 3)) 0
  (.op (some 33) (.load none (.t 32)) 32
  (.op (some 34) (.move (.t 5)) 0
  (.op (some 35) (.idxAddr 2 (.t 33) (.t 34)) 224
  (.op (some 36) (.load (some 2) (.t 35)) 480
  (.op (some 37) (.eqs true [(0, 1), (1, 1)] (.t 31) (.t 36)) 1023
  .nil)))))))))))) true)
 (.cond (.t 37)
 (.seq (.region (Nodes.flat none (.op (some 4) (.move (.c (.bool false))) 0
  .nil)) false)
 .ret)
 .skip)))
 (.region (Nodes.flat none (.op (some 25) (.move (.t 5)) 0
  (.op (some 26) (.bin .add (.t 25) (.c (.int .i64 1))) 0
  (.op (some 5) (.move (.t 26)) 0
  .nil)))) false))))))
 (.seq (.region (Nodes.flat none (.op (some 4) (.move (.c (.bool true))) 0
  .nil)) false)
 .ret)))),
 [.tmp 4]⟩
theorem b13 : fnOf Go.Proofs.Try.prog (owOf []) 13 = some c13 := by kernel_rfl

/-- bywash/bywashlaw04.theirFlat -/
def c14 : RFn := ⟨(.seq (.region (Nodes.flat none (.op (some 1) (.box (.t 0)) 0
  (.op (some 2) (.alloc (.agg [(.bool false), (.lit [])])) 0
  .nil))) false)
 (.seq (.region (Nodes.flat none (.op (some 5) (.fieldAddr 0 (.t 1)) 0
  (.op (some 6) (.load none (.t 5)) 0
  (.op (some 7) (.build [(.bool false), (.lit [])] [(0, 1, (.t 6))]) 0
  (.op (some 3) (.alloc (.agg [(.bool false), (.lit [])])) 0
  (.op none (.store 2 (.t 3) (.t 7)) 0
  .nil)))))) false)
 (.seq (.seq (.region (Nodes.flat none (.op (some 4) (.move (.c (.int .i64 0))) 0
  .nil)) false)
 (.block 0 (.loop (.seq (.seq (.region (Nodes.flat none (.op (some 8) (.move (.t 4)) 0
  (.op (some 9) (.fieldAddr 1 (.t 1)) 0
  (.op (some 10) (.load none (.t 9)) 0
  (.op (some 11) (.len false (.t 10)) 0
  (.op (some 12) (.bin .lss (.t 8) (.t 11)) 0
  .nil)))))) false)
 (.cond (.t 12)
 .skip
 (.exit 0)))
 (.seq (.block 1 (.region (Nodes.flat none (.op (some 15) (.fieldAddr 1 (.t 3)) 0
  (.op (some 16) (.load none (.t 15)) 1
  (.op (some 17) (.fieldAddr 1 (.t 1)) 0
  (.op (some 18) (.load none (.t 17)) 4
  (.op (some 19) (.move (.t 4)) 0
  (.op (some 20) (.idxAddr 2 (.t 18) (.t 19)) 28
  (.op (some 21) (.fieldAddr 0 (.t 20)) 60
  (.op (some 22) (.load none (.t 21)) 124
  (.op (some 23) (.fieldAddr 1 (.t 1)) 0
  (.op (some 24) (.load none (.t 23)) 256
  (.op (some 25) (.move (.t 4)) 0
  (.op (some 26) (.idxAddr 2 (.t 24) (.t 25)) 1792
  (.op (some 27) (.fieldAddr 1 (.t 26)) 3840
  (.op (some 28) (.load none (.t 27)) 7936
  (.op (some 29) (.build [(.int .i64 0), (.int .i64 0)] [(0, 1, (.t 22)), (1, 1, (.t 28))]) 16380
  (.op (some 30) (.bslice false 2 1 (.agg [(.int .i64 0), (.int .i64 0)]) [(0, (.t 29))]) 32764
  (.op (some 31) (.append 2 (.agg [(.int .i64 0), (.int .i64 0)]) (.t 16) (.t 30)) 65535
  (.op (some 32) (.fieldAddr 1 (.t 3)) 131071
  (.op none (.store 1 (.t 32) (.t 31)) 262143
  .nil)))))))))))))))))))) true))
 (.region (Nodes.flat none (.op (some 13) (.move (.t 4)) 0
  (.op (some 14) (.bin .add (.t 13) (.c (.int .i64 1))) 0
  (.op (some 4) (.move (.t 14)) 0
  .nil)))) false))))))
 (.seq (.region (Nodes.flat none (.op (some 33) (.load (some 2) (.t 3)) 0
  (.op none (.store 2 (.t 2) (.t 33)) 0
  .nil))) false)
 .ret)))),
 [.cell (some 2) 2]⟩
theorem b14 : fnOf Go.Proofs.Try.prog (owOf [(5, 15)]) 14 = some c14 := by kernel_rfl

/-- bywash/env.Height -/
def c29 : RFn := ⟨(.seq (.region (Nodes.flat none (.op (some 4) (.move (.c (.int .i64 0))) 0
  .nil)) false)
 (.seq (.region (Nodes.flat none (.op (some 5) (.move (.t 0)) 0
  (.op (some 6) (.call 55 [(.t 5), (.c (.int .i64 1024))]) 0
  (.op (some 7) (.move (.t 1)) 0
  (.op (some 8) (.call 55 [(.t 7), (.c (.int .i64 1024))]) 0
  (.op (some 9) (.bin .mul (.t 6) (.t 8)) 0
  (.op (some 10) (.bin .add (.t 9) (.c (.int .i64 1))) 0
  (.op (some 4) (.move (.t 10)) 0
  .nil)))))))) false)
 .ret)),
 [.tmp 4]⟩
theorem b29 : fnOf Go.Proofs.Try.prog (owOf []) 29 = some c29 := by kernel_rfl

/-- bywash/bywashref04.Height -/
def c30 : RFn := ⟨(.seq (.region (Nodes.flat none (.op (some 4) (.move (.c (.int .i64 0))) 0
  .nil)) false)
 (.seq (.region (Nodes.flat none (.op (some 5) (.move (.t 0)) 0
  (.op (some 6) (.mm false (.t 5) [(.c (.int .i64 1024))]) 0
  (.op (some 7) (.mm true (.c (.int .i64 0)) [(.t 6)]) 0
  (.op (some 8) (.move (.t 1)) 0
  (.op (some 9) (.mm false (.t 8) [(.c (.int .i64 1024))]) 0
  (.op (some 10) (.mm true (.c (.int .i64 0)) [(.t 9)]) 0
  (.op (some 11) (.bin .mul (.t 7) (.t 10)) 0
  (.op (some 12) (.bin .add (.t 11) (.c (.int .i64 1))) 0
  (.op (some 4) (.move (.t 12)) 0
  .nil)))))))))) false)
 .ret)),
 [.tmp 4]⟩
theorem b30 : fnOf Go.Proofs.Try.prog (owOf []) 30 = some c30 := by kernel_rfl

/-- bywash/env.bounded[int] -/
def c55 : RFn := ⟨(.seq (.region (Nodes.flat none (.op (some 4) (.move (.c (.int .i64 0))) 0
  .nil)) false)
 (.seq (.region (Nodes.flat none (.op (some 5) (.move (.t 0)) 0
  (.op (some 6) (.move (.t 1)) 0
  (.op (some 7) (.mm false (.t 5) [(.t 6)]) 0
  (.op (some 8) (.mm true (.c (.int .i64 0)) [(.t 7)]) 0
  (.op (some 4) (.move (.t 8)) 0
  .nil)))))) false)
 .ret)),
 [.tmp 4]⟩
theorem b55 : fnOf Go.Proofs.Try.prog (owOf []) 55 = some c55 := by kernel_rfl

end Go.Vm
