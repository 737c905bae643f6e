/- Laid. -/
import Derived.Test.YtlcbceneacnaiaaDoorVmThree
import Derived.KernelRfl
import Derived.Test.YtlcbceneacnaiaaDoorProg
/- Code. -/
set_option maxRecDepth 100000
set_option linter.unusedSimpArgs false
set_option linter.unusedVariables false
namespace Go.Vm
open Go

/-- bywash/bits.Union -/
def c32 : RFn := ⟨(.seq (.region (Nodes.flat none (.op (some 2) (.box (.t 0)) 0
  (.op (some 3) (.box (.t 1)) 0
  (.op (some 4) (.alloc (.agg [(.int .i64 0), (.lit [])])) 0
  .nil)))) false)
 (.seq (.region (Nodes.flat none (.op (some 10) (.load (some 2) (.t 2)) 0
  (.op (some 11) (.load (some 2) (.t 3)) 0
  (.op (some 12) (.call 58 [(.t 10), (.t 11)]) 0
  (.op (some 9) (.move (.t 12)) 0
  (.op (some 13) (.extract 0 (.t 9)) 0
  (.op (some 14) (.extract 1 (.t 9)) 0
  (.op (some 5) (.alloc (.agg [(.int .i64 0), (.lit [])])) 0
  (.op (some 6) (.alloc (.agg [(.int .i64 0), (.lit [])])) 0
  (.op none (.store 2 (.t 5) (.t 13)) 0
  (.op none (.store 2 (.t 6) (.t 14)) 0
  .nil))))))))))) false)
 (.seq (.seq (.region (Nodes.flat none (.op (some 15) (.fieldAddr 1 (.t 6)) 0
  (.op (some 16) (.load none (.t 15)) 0
  (.op (some 17) (.len false (.t 16)) 0
  (.op (some 18) (.move (.c (.int .i64 0))) 0
  .nil))))) false)
 (.block 0 (.loop (.seq (.region (Nodes.flat none (.op (some 19) (.bin .lss (.t 18) (.t 17)) 0
  .nil)) false)
 (.seq (.cond (.t 19)
 .skip
 (.exit 0))
 (.seq (.block 1 (.seq (.region (Nodes.flat none (.op (some 20) (.move (.t 18)) 0
  (.op (some 21) (.idxAddr 1 (.t 16) (.t 18)) 0
  (.op (some 22) (.load none (.t 21)) 0
  (.op (some 7) (.move (.t 20)) 0
  (.op (some 8) (.move (.t 22)) 0
  .nil)))))) false)
 (.region (Nodes.flat none (.op (some 23) (.fieldAddr 1 (.t 5)) 0
  (.op (some 24) (.load none (.t 23)) 0
  (.op (some 25) (.move (.t 7)) 0
  (.op (some 26) (.idxAddr 1 (.t 24) (.t 25)) 0
  (.op (some 27) (.load none (.t 26)) 0
  (.op (some 28) (.move (.t 8)) 0
  (.op (some 29) (.bin .or (.t 27) (.t 28)) 0
  (.op (some 30) (.idxAddr 1 (.t 24) (.t 25)) 0
  (.op none (.store 1 (.t 30) (.t 29)) 0
  .nil)))))))))) false)))
 (.region (Nodes.flat none (.op (some 31) (.bin .add (.t 18) (.c (.int .i64 1))) 0
  (.op (some 18) (.move (.t 31)) 0
  .nil))) false)))))))
 (.seq (.region (Nodes.flat none (.op (some 32) (.load (some 2) (.t 5)) 0
  (.op none (.store 2 (.t 4) (.t 32)) 0
  .nil))) false)
 .ret)))),
 [.cell (some 2) 4]⟩
theorem b32 : fnOf Go.Proofs.Tryd.prog (owOf []) 32 = some c32 := by kernel_rfl

/-- bywash/bits.Minus -/
def c41 : RFn := ⟨(.seq (.region (Nodes.flat none (.op (some 2) (.box (.t 0)) 0
  (.op (some 3) (.box (.t 1)) 0
  (.op (some 4) (.alloc (.agg [(.int .i64 0), (.lit [])])) 0
  .nil)))) false)
 (.seq (.region (Nodes.flat none (.op (some 10) (.load (some 2) (.t 2)) 0
  (.op (some 11) (.load (some 2) (.t 3)) 0
  (.op (some 12) (.call 58 [(.t 10), (.t 11)]) 0
  (.op (some 9) (.move (.t 12)) 0
  (.op (some 13) (.extract 0 (.t 9)) 0
  (.op (some 14) (.extract 1 (.t 9)) 0
  (.op (some 5) (.alloc (.agg [(.int .i64 0), (.lit [])])) 0
  (.op (some 6) (.alloc (.agg [(.int .i64 0), (.lit [])])) 0
  (.op none (.store 2 (.t 5) (.t 13)) 0
  (.op none (.store 2 (.t 6) (.t 14)) 0
  .nil))))))))))) false)
 (.seq (.seq (.region (Nodes.flat none (.op (some 15) (.fieldAddr 1 (.t 6)) 0
  (.op (some 16) (.load none (.t 15)) 0
  (.op (some 17) (.len false (.t 16)) 0
  (.op (some 18) (.move (.c (.int .i64 0))) 0
  .nil))))) false)
 (.block 0 (.loop (.seq (.region (Nodes.flat none (.op (some 19) (.bin .lss (.t 18) (.t 17)) 0
  .nil)) false)
 (.seq (.cond (.t 19)
 .skip
 (.exit 0))
 (.seq (.block 1 (.seq (.region (Nodes.flat none (.op (some 20) (.move (.t 18)) 0
  (.op (some 21) (.idxAddr 1 (.t 16) (.t 18)) 0
  (.op (some 22) (.load none (.t 21)) 0
  (.op (some 7) (.move (.t 20)) 0
  (.op (some 8) (.move (.t 22)) 0
  .nil)))))) false)
 (.region (Nodes.flat none (.op (some 23) (.fieldAddr 1 (.t 5)) 0
  (.op (some 24) (.load none (.t 23)) 0
  (.op (some 25) (.move (.t 7)) 0
  (.op (some 26) (.idxAddr 1 (.t 24) (.t 25)) 0
  (.op (some 27) (.load none (.t 26)) 0
  (.op (some 28) (.move (.t 8)) 0
  (.op (some 29) (.bin .andNot (.t 27) (.t 28)) 0
  (.op (some 30) (.idxAddr 1 (.t 24) (.t 25)) 0
  (.op none (.store 1 (.t 30) (.t 29)) 0
  .nil)))))))))) false)))
 (.region (Nodes.flat none (.op (some 31) (.bin .add (.t 18) (.c (.int .i64 1))) 0
  (.op (some 18) (.move (.t 31)) 0
  .nil))) false)))))))
 (.seq (.region (Nodes.flat none (.op (some 32) (.load (some 2) (.t 5)) 0
  (.op none (.store 2 (.t 4) (.t 32)) 0
  .nil))) false)
 .ret)))),
 [.cell (some 2) 4]⟩
theorem b41 : fnOf Go.Proofs.Tryd.prog (owOf []) 41 = some c41 := by kernel_rfl

/-- bywash/bits.both -/
def c58 : RFn := ⟨(.seq (.region (Nodes.flat none (.op (some 2) (.box (.t 0)) 0
  (.op (some 3) (.box (.t 1)) 0
  (.op (some 4) (.alloc (.agg [(.int .i64 0), (.lit [])])) 0
  (.op (some 5) (.alloc (.agg [(.int .i64 0), (.lit [])])) 0
  .nil))))) false)
 (.seq (.region (Nodes.flat none (.op (some 7) (.load (some 2) (.t 2)) 0
  (.op (some 8) (.call 37 [(.t 7)]) 1
  (.op (some 9) (.field 0 none (.t 8)) 3
  (.op (some 10) (.load (some 2) (.t 3)) 0
  (.op (some 11) (.call 37 [(.t 10)]) 11
  (.op (some 12) (.field 0 none (.t 11)) 27
  (.op (some 13) (.mm true (.t 9) [(.t 12)]) 63
  (.op (some 6) (.move (.t 13)) 127
  .nil))))))))) true)
 (.seq (.region (Nodes.flat none (.op (some 14) (.load (some 2) (.t 2)) 0
  (.op (some 15) (.move (.t 6)) 0
  (.op (some 16) (.call 57 [(.t 14), (.t 15)]) 3
  (.op (some 17) (.load (some 2) (.t 3)) 0
  (.op (some 18) (.move (.t 6)) 0
  (.op (some 19) (.call 57 [(.t 17), (.t 18)]) 31
  (.op none (.store 2 (.t 4) (.t 16)) 63
  (.op none (.store 2 (.t 5) (.t 19)) 127
  .nil))))))))) true)
 .ret))),
 [.cell (some 2) 4, .cell (some 2) 5]⟩
theorem b58 : fnOf Go.Proofs.Tryd.prog (owOf []) 58 = some c58 := by kernel_rfl

end Go.Vm
