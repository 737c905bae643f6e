/- Laid. -/
import Derived.Test.YtlcbceneacnaiaaVmThree
import Derived.KernelRfl
import Derived.Test.YtlcbceneacnaiaaProg
/- Code. -/
set_option maxRecDepth 100000
set_option linter.unusedSimpArgs false
set_option linter.unusedVariables false
namespace Go.Vm
open Go

/-- bywash/bywashlaw04.ourSign -/
def c18 : RFn := ⟨(.seq (.region (Nodes.flat none (.op (some 1) (.box (.t 0)) 0
  (.op (some 2) (.alloc (.agg [(.bool false), (.lit [])])) 0
  .nil))) false)
 (.seq (.region (Nodes.flat none (.op (some 3) (.fieldAddr 0 (.t 1)) 0
  (.op (some 4) (.load none (.t 3)) 0
  (.op (some 5) (.fieldAddr 1 (.t 1)) 0
  (.op (some 6) (.load none (.t 5)) 0
  (.op (some 7) (.build [(.bool false), (.lit [])] [(0, 1, (.t 4)), (1, 1, (.t 6))]) 0
  (.op none (.store 2 (.t 2) (.t 7)) 0
  .nil))))))) false)
 .ret)),
 [.cell (some 2) 2]⟩
theorem b18 : fnOf Go.Proofs.Try.prog (owOf []) 18 = some c18 := by kernel_rfl

/-- bywash/bywashref04.SameSign -/
def c21 : RFn := ⟨(.seq (.region (Nodes.flat none (.op (some 2) (.box (.t 0)) 0
  (.op (some 3) (.box (.t 1)) 0
  (.op (some 4) (.move (.c (.bool false))) 0
  .nil)))) false)
 (.seq (.seq (.region (Nodes.flat none (.op (some 6) (.fieldAddr 0 (.t 2)) 0
  (.op (some 7) (.load none (.t 6)) 0
  (.op (some 8) (.fieldAddr 0 (.t 3)) 0
  (.op (some 9) (.load none (.t 8)) 0
  (.op (some 10) (.binb .neq (.t 7) (.t 9)) 0
  (.op (some 11) (.move (.t 10)) 0
  (.grd 11 false
  (.op (some 12) (.fieldAddr 1 (.t 2)) 0
  (.op (some 13) (.load none (.t 12)) 0
  (.op (some 14) (.len false (.t 13)) 0
  (.op (some 15) (.fieldAddr 1 (.t 3)) 0
  (.op (some 16) (.load none (.t 15)) 0
  (.op (some 17) (.len false (.t 16)) 0
  (.op (some 18) (.bin .neq (.t 14) (.t 17)) 0
  .nil)))))))
  (.op (some 19) (.pick (.t 11) (.c (.bool true)) (.t 18)) 0
  .nil))))))))) false)
 (.cond (.t 19)
 (.seq (.region (Nodes.flat none (.op (some 4) (.move (.c (.bool false))) 0
  .nil)) false)
 .ret)
 .skip))
 (.seq (.seq (.region (Nodes.flat none (.op (some 5) (.move (.c (.int .i64 0))) 0
  .nil)) false)
 (.block 0 (.loop (.seq (.seq (.region (Nodes.flat none (.op (some 20) (.move (.t 5)) 0
  (.op (some 21) (.fieldAddr 1 (.t 2)) 0
  (.op (some 22) (.load none (.t 21)) 0
  (.op (some 23) (.len false (.t 22)) 0
  (.op (some 24) (.bin .lss (.t 20) (.t 23)) 0
  .nil)))))) false)
 (.cond (.t 24)
 .skip
 (.exit 0)))
 (.seq (.block 1 (.seq (.region (Nodes.flat none (.op (some 27) (.fieldAddr 1 (.t 2)) 0
  (.op (some 28) (.load none (.t 27)) 1
  (.op (some 29) (.move (.t 5)) 0
  (.op (some 30) (.idxAddr 1 (.t 28) (.t 29)) 7
  (.op (some 31) (.load none (.t 30)) 15
  (.op (some 32) (.fieldAddr 1 (.t 3)) 0
  (.op (some 33) (.load none (.t 32)) 32
  (.op (some 34) (.move (.t 5)) 0
  (.op (some 35) (.idxAddr 1 (.t 33) (.t 34)) 224
  (.op (some 36) (.load none (.t 35)) 480
  (.op (some 37) (.bin .neq (.t 31) (.t 36)) 1023
  .nil)))))))))))) true)
 (.cond (.t 37)
 (.seq (.region (Nodes.flat none (.op (some 4) (.move (.c (.bool false))) 0
  .nil)) false)
 .ret)
 .skip)))
 (.region (Nodes.flat none (.op (some 25) (.move (.t 5)) 0
  (.op (some 26) (.bin .add (.t 25) (.c (.int .i64 1))) 0
  (.op (some 5) (.move (.t 26)) 0
  .nil)))) false))))))
 (.seq (.region (Nodes.flat none (.op (some 4) (.move (.c (.bool true))) 0
  .nil)) false)
 .ret)))),
 [.tmp 4]⟩
theorem b21 : fnOf Go.Proofs.Try.prog (owOf []) 21 = some c21 := by kernel_rfl

/-- bywash/bywashlaw04.theirSign -/
def c22 : RFn := ⟨(.seq (.region (Nodes.flat none (.op (some 1) (.box (.t 0)) 0
  (.op (some 2) (.alloc (.agg [(.bool false), (.lit [])])) 0
  .nil))) false)
 (.seq (.region (Nodes.flat none (.op (some 3) (.fieldAddr 0 (.t 1)) 0
  (.op (some 4) (.load none (.t 3)) 0
  (.op (some 5) (.fieldAddr 1 (.t 1)) 0
  (.op (some 6) (.load none (.t 5)) 0
  (.op (some 7) (.build [(.bool false), (.lit [])] [(0, 1, (.t 4)), (1, 1, (.t 6))]) 0
  (.op none (.store 2 (.t 2) (.t 7)) 0
  .nil))))))) false)
 .ret)),
 [.cell (some 2) 2]⟩
theorem b22 : fnOf Go.Proofs.Try.prog (owOf []) 22 = some c22 := by kernel_rfl

end Go.Vm
