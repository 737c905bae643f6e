/- Laid. -/
import Derived.Test.YtlcbceneacnaiaaDoorVmThree
import Derived.KernelRfl
import Derived.Test.YtlcbceneacnaiaaDoorProg
/- Code. -/
set_option maxRecDepth 100000
set_option linter.unusedSimpArgs false
set_option linter.unusedVariables false
namespace Go.Vm
open Go

/-- bywash/bits.Same -/
def c14 : RFn := ⟨(.seq (.region (Nodes.flat none (.op (some 2) (.box (.t 0)) 0
  (.op (some 3) (.box (.t 1)) 0
  (.op (some 4) (.move (.c (.bool false))) 0
  .nil)))) false)
 (.seq (.region (Nodes.flat none (.op (some 7) (.load (some 2) (.t 2)) 0
  (.op (some 8) (.call 37 [(.t 7)]) 1
  (.op (some 9) (.load (some 2) (.t 3)) 0
  (.op (some 10) (.call 37 [(.t 9)]) 7
  (.op (some 5) (.alloc (.agg [(.int .i64 0), (.lit [])])) 0
  (.op (some 6) (.alloc (.agg [(.int .i64 0), (.lit [])])) 0
  (.op none (.store 2 (.t 5) (.t 8)) 63
  (.op none (.store 2 (.t 6) (.t 10)) 127
  .nil))))))))) true)
 (.seq (.region (Nodes.flat none (.op (some 11) (.fieldAddr 0 (.t 5)) 0
  (.op (some 12) (.load none (.t 11)) 0
  (.op (some 13) (.fieldAddr 0 (.t 6)) 0
  (.op (some 14) (.load none (.t 13)) 0
  (.op (some 15) (.bin .eql (.t 12) (.t 14)) 0
  (.op (some 16) (.move (.t 15)) 0
  (.grd 16 true
  (.op (some 17) (.fieldAddr 1 (.t 5)) 0
  (.op (some 18) (.load none (.t 17)) 0
  (.op (some 19) (.fieldAddr 1 (.t 6)) 0
  (.op (some 20) (.load none (.t 19)) 0
  (.op (some 21) (.call 38 [(.t 18), (.t 20)]) 0
  .nil)))))
  (.op (some 22) (.pick (.t 16) (.t 21) (.c (.bool false))) 0
  (.op (some 4) (.move (.t 22)) 0
  .nil)))))))))) false)
 .ret))),
 [.tmp 4]⟩
theorem b14 : fnOf Go.Proofs.Tryd.prog (owOf []) 14 = some c14 := by kernel_rfl

/-- bywash/bits.Of -/
def c29 : RFn := ⟨(.seq (.region (Nodes.flat none (.op (some 4) (.alloc (.agg [(.int .i64 0), (.lit [])])) 0
  .nil)) false)
 (.seq (.region (Nodes.flat none (.op (some 10) (.move (.t 0)) 0
  (.op (some 11) (.call 39 [(.t 10)]) 0
  (.op (some 5) (.alloc (.agg [(.int .i64 0), (.lit [])])) 0
  (.op none (.store 2 (.t 5) (.t 11)) 0
  .nil))))) false)
 (.seq (.seq (.region (Nodes.flat none (.op (some 12) (.move (.t 1)) 0
  (.op (some 13) (.len false (.t 12)) 0
  (.op (some 14) (.move (.c (.int .i64 0))) 0
  .nil)))) false)
 (.block 0 (.loop (.seq (.region (Nodes.flat none (.op (some 15) (.bin .lss (.t 14) (.t 13)) 0
  .nil)) false)
 (.seq (.cond (.t 15)
 .skip
 (.exit 0))
 (.seq (.block 1 (.seq (.region (Nodes.flat none (.op (some 16) (.idxAddr 1 (.t 12) (.t 14)) 0
  (.op (some 17) (.load none (.t 16)) 0
  (.op (some 7) (.move (.t 17)) 0
  .nil)))) false)
 (.seq (.region (Nodes.flat none (.op (some 18) (.load (some 2) (.t 5)) 0
  (.op (some 19) (.move (.t 7)) 0
  (.op (some 20) (.call 35 [(.t 18), (.t 19)]) 0
  .nil)))) false)
 (.cond (.t 20)
 (.seq (.region (Nodes.flat none (.op (some 22) (.move (.t 7)) 0
  (.op (some 23) (.call 36 [(.t 22)]) 0
  (.op (some 21) (.move (.t 23)) 0
  (.op (some 24) (.extract 0 (.t 21)) 0
  (.op (some 25) (.extract 1 (.t 21)) 0
  (.op (some 8) (.move (.t 24)) 0
  (.op (some 9) (.move (.t 25)) 0
  .nil)))))))) false)
 (.region (Nodes.flat none (.op (some 26) (.fieldAddr 1 (.t 5)) 0
  (.op (some 27) (.load none (.t 26)) 0
  (.op (some 28) (.move (.t 8)) 0
  (.op (some 29) (.idxAddr 1 (.t 27) (.t 28)) 0
  (.op (some 30) (.load none (.t 29)) 0
  (.op (some 31) (.move (.t 9)) 0
  (.op (some 32) (.bin .or (.t 30) (.t 31)) 0
  (.op (some 33) (.idxAddr 1 (.t 27) (.t 28)) 0
  (.op none (.store 1 (.t 33) (.t 32)) 0
  .nil)))))))))) false))
 .skip))))
 (.region (Nodes.flat none (.op (some 34) (.bin .add (.t 14) (.c (.int .i64 1))) 0
  (.op (some 14) (.move (.t 34)) 0
  .nil))) false)))))))
 (.seq (.region (Nodes.flat none (.op (some 35) (.load (some 2) (.t 5)) 0
  (.op none (.store 2 (.t 4) (.t 35)) 0
  .nil))) false)
 .ret)))),
 [.cell (some 2) 4]⟩
theorem b29 : fnOf Go.Proofs.Tryd.prog (owOf []) 29 = some c29 := by kernel_rfl

/-- slices.Equal[[]uint64,uint64] -/
def c38 : RFn := ⟨(.seq (.region (Nodes.flat none (.op (some 4) (.move (.c (.bool false))) 0
  .nil)) false)
 (.seq (.seq (.region (Nodes.flat none (.op (some 6) (.move (.t 0)) 0
  (.op (some 7) (.len false (.t 6)) 0
  (.op (some 8) (.move (.t 1)) 0
  (.op (some 9) (.len false (.t 8)) 0
  (.op (some 10) (.bin .neq (.t 7) (.t 9)) 0
  .nil)))))) false)
 (.cond (.t 10)
 (.seq (.region (Nodes.flat none (.op (some 4) (.move (.c (.bool false))) 0
  .nil)) false)
 .ret)
 .skip))
 (.seq (.seq (.region (Nodes.flat none (.op (some 11) (.move (.t 0)) 0
  (.op (some 12) (.len false (.t 11)) 0
  (.op (some 13) (.move (.c (.int .i64 0))) 0
  .nil)))) false)
 (.block 0 (.loop (.seq (.region (Nodes.flat none (.op (some 14) (.bin .lss (.t 13) (.t 12)) 0
  .nil)) false)
 (.seq (.cond (.t 14)
 .skip
 (.exit 0))
 (.seq (.block 1 (.seq (.region (Nodes.flat none (.op (some 15) (.move (.t 13)) 0
  (.op (some 5) (.move (.t 15)) 0
  .nil))) false)
 (.seq (.region (Nodes.flat none (.op (some 16) (.move (.t 0)) 0
  (.op (some 17) (.move (.t 5)) 0
  (.op (some 18) (.idxAddr 1 (.t 16) (.t 17)) 3
  (.op (some 19) (.load none (.t 18)) 7
  (.op (some 20) (.move (.t 1)) 0
  (.op (some 21) (.move (.t 5)) 0
  (.op (some 22) (.idxAddr 1 (.t 20) (.t 21)) 48
  (.op (some 23) (.load none (.t 22)) 112
  (.op (some 24) (.bin .neq (.t 19) (.t 23)) 255
  .nil)))))))))) true)
 (.cond (.t 24)
 (.seq (.region (Nodes.flat none (.op (some 4) (.move (.c (.bool false))) 0
  .nil)) false)
 .ret)
 .skip))))
 (.region (Nodes.flat none (.op (some 25) (.bin .add (.t 13) (.c (.int .i64 1))) 0
  (.op (some 13) (.move (.t 25)) 0
  .nil))) false)))))))
 (.seq (.region (Nodes.flat none (.op (some 4) (.move (.c (.bool true))) 0
  .nil)) false)
 .ret)))),
 [.tmp 4]⟩
theorem b38 : fnOf Go.Proofs.Tryd.prog (owOf []) 38 = some c38 := by kernel_rfl

end Go.Vm
