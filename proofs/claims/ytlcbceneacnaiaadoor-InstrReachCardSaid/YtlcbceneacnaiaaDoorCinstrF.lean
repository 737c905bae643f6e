/- Laid. -/
import Derived.Test.YtlcbceneacnaiaaDoorVmThree
import Derived.KernelRfl
import Derived.Test.YtlcbceneacnaiaaDoorProg
/- Code. -/
set_option maxRecDepth 100000
set_option linter.unusedSimpArgs false
set_option linter.unusedVariables false
namespace Go.Vm
open Go

/-- bywash/instr.Uses -/
def c11 : RFn := ⟨(.seq (.region (Nodes.flat none (.op (some 1) (.box (.t 0)) 0
  (.op (some 2) (.move (.c (.lit []))) 0
  .nil))) false)
 (.seq (.seq (.region (Nodes.flat none (.op (some 7) (.load (some 11) (.t 1)) 0
  (.op (some 8) (.call 16 [(.t 7)]) 0
  (.op (some 9) (.un .not (.t 8)) 0
  .nil)))) false)
 (.cond (.t 9)
 (.seq (.region (Nodes.flat none (.op (some 2) (.move (.c (.lit []))) 0
  .nil)) false)
 .ret)
 .skip))
 (.seq (.region (Nodes.flat none (.op (some 3) (.move (.c (.lit []))) 0
  .nil)) false)
 (.seq (.seq (.region (Nodes.flat none (.op (some 10) (.load (some 11) (.t 1)) 0
  (.op (some 11) (.call 33 [(.t 10), (.c (.str ⟨#[97]⟩))]) 0
  .nil))) false)
 (.cond (.t 11)
 (.region (Nodes.flat none (.op (some 12) (.move (.t 3)) 0
  (.op (some 13) (.fieldAddr 3 (.t 1)) 0
  (.op (some 14) (.load none (.t 13)) 0
  (.op (some 15) (.bslice false 1 1 (.int .i64 0) [(0, (.t 14))]) 0
  (.op (some 16) (.append 1 (.int .i64 0) (.t 12) (.t 15)) 0
  (.op (some 3) (.move (.t 16)) 0
  .nil))))))) false)
 .skip))
 (.seq (.seq (.region (Nodes.flat none (.op (some 17) (.load (some 11) (.t 1)) 0
  (.op (some 18) (.call 33 [(.t 17), (.c (.str ⟨#[98]⟩))]) 0
  .nil))) false)
 (.cond (.t 18)
 (.region (Nodes.flat none (.op (some 19) (.move (.t 3)) 0
  (.op (some 20) (.fieldAddr 4 (.t 1)) 0
  (.op (some 21) (.load none (.t 20)) 0
  (.op (some 22) (.bslice false 1 1 (.int .i64 0) [(0, (.t 21))]) 0
  (.op (some 23) (.append 1 (.int .i64 0) (.t 19) (.t 22)) 0
  (.op (some 3) (.move (.t 23)) 0
  .nil))))))) false)
 .skip))
 (.seq (.region (Nodes.flat none (.op (some 4) (.move (.c (.lit []))) 0
  .nil)) false)
 (.seq (.seq (.region (Nodes.flat none (.op (some 24) (.move (.t 3)) 0
  (.op (some 25) (.fieldAddr 8 (.t 1)) 0
  (.op (some 26) (.fieldAddr 7 (.t 1)) 0
  (.op (some 27) (.load none (.t 26)) 0
  (.op (some 28) (.prim (.sliceArr 3 false true false) [(.t 25), (.t 27)]) 0
  (.op (some 29) (.append 1 (.int .i64 0) (.t 24) (.t 28)) 0
  (.op (some 30) (.len false (.t 29)) 0
  (.op (some 31) (.move (.c (.int .i64 0))) 0
  .nil))))))))) false)
 (.block 0 (.loop (.seq (.region (Nodes.flat none (.op (some 32) (.bin .lss (.t 31) (.t 30)) 0
  .nil)) false)
 (.seq (.cond (.t 32)
 .skip
 (.exit 0))
 (.seq (.block 1 (.seq (.region (Nodes.flat none (.op (some 33) (.idxAddr 1 (.t 29) (.t 31)) 0
  (.op (some 34) (.load none (.t 33)) 0
  (.op (some 6) (.move (.t 34)) 0
  .nil)))) false)
 (.seq (.region (Nodes.flat none (.op (some 35) (.move (.t 4)) 0
  (.op (some 36) (.move (.t 6)) 0
  (.op (some 37) (.call 34 [(.t 35), (.t 36)]) 0
  (.op (some 38) (.un .not (.t 37)) 0
  .nil))))) false)
 (.cond (.t 38)
 (.region (Nodes.flat none (.op (some 39) (.move (.t 4)) 0
  (.op (some 40) (.move (.t 6)) 0
  (.op (some 41) (.bslice false 1 1 (.int .i64 0) [(0, (.t 40))]) 0
  (.op (some 42) (.append 1 (.int .i64 0) (.t 39) (.t 41)) 0
  (.op (some 4) (.move (.t 42)) 0
  .nil)))))) false)
 .skip))))
 (.region (Nodes.flat none (.op (some 43) (.bin .add (.t 31) (.c (.int .i64 1))) 0
  (.op (some 31) (.move (.t 43)) 0
  .nil))) false)))))))
 (.seq (.region (Nodes.flat none (.op (some 44) (.move (.t 4)) 0
  (.op (some 2) (.move (.t 44)) 0
  .nil))) false)
 .ret)))))))),
 [.tmp 2]⟩
theorem b11 : fnOf Go.Proofs.Tryd.prog (owOf [(5, 3), (7, 3), (13, 2)]) 11 = some c11 := by kernel_rfl

/-- slices.Contains[[]int,int] -/
def c34 : RFn := ⟨(.seq (.region (Nodes.flat none (.op (some 4) (.move (.c (.bool false))) 0
  .nil)) false)
 (.seq (.region (Nodes.flat none (.op (some 5) (.move (.t 0)) 0
  (.op (some 6) (.move (.t 1)) 0
  (.op (some 7) (.call 61 [(.t 5), (.t 6)]) 0
  (.op (some 8) (.bin .geq (.t 7) (.c (.int .i64 0))) 0
  (.op (some 4) (.move (.t 8)) 0
  .nil)))))) false)
 .ret)),
 [.tmp 4]⟩
theorem b34 : fnOf Go.Proofs.Tryd.prog (owOf []) 34 = some c34 := by kernel_rfl

/-- slices.Index[[]int,int] -/
def c61 : RFn := ⟨(.seq (.region (Nodes.flat none (.op (some 4) (.move (.c (.int .i64 0))) 0
  .nil)) false)
 (.seq (.seq (.region (Nodes.flat none (.op (some 6) (.move (.t 0)) 0
  (.op (some 7) (.len false (.t 6)) 0
  (.op (some 8) (.move (.c (.int .i64 0))) 0
  .nil)))) false)
 (.block 0 (.loop (.seq (.region (Nodes.flat none (.op (some 9) (.bin .lss (.t 8) (.t 7)) 0
  .nil)) false)
 (.seq (.cond (.t 9)
 .skip
 (.exit 0))
 (.seq (.block 1 (.seq (.region (Nodes.flat none (.op (some 10) (.move (.t 8)) 0
  (.op (some 5) (.move (.t 10)) 0
  .nil))) false)
 (.seq (.region (Nodes.flat none (.op (some 11) (.move (.t 1)) 0
  (.op (some 12) (.move (.t 0)) 0
  (.op (some 13) (.move (.t 5)) 0
  (.op (some 14) (.idxAddr 1 (.t 12) (.t 13)) 0
  (.op (some 15) (.load none (.t 14)) 0
  (.op (some 16) (.bin .eql (.t 11) (.t 15)) 0
  .nil))))))) false)
 (.cond (.t 16)
 (.seq (.region (Nodes.flat none (.op (some 17) (.move (.t 5)) 0
  (.op (some 4) (.move (.t 17)) 0
  .nil))) false)
 .ret)
 .skip))))
 (.region (Nodes.flat none (.op (some 18) (.bin .add (.t 8) (.c (.int .i64 1))) 0
  (.op (some 8) (.move (.t 18)) 0
  .nil))) false)))))))
 (.seq (.region (Nodes.flat none (.op (some 4) (.move (.c (.int .i64 (-1)))) 0
  .nil)) false)
 .ret))),
 [.tmp 4]⟩
theorem b61 : fnOf Go.Proofs.Tryd.prog (owOf []) 61 = some c61 := by kernel_rfl

end Go.Vm
