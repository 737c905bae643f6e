/- Laid. -/
import Derived.Test.YtlcbceneacnaiaaVmThree
import Derived.KernelRfl
import Derived.Test.YtlcbceneacnaiaaProg
/- Code. -/
set_option maxRecDepth 100000
set_option linter.unusedSimpArgs false
set_option linter.unusedVariables false
namespace Go.Vm
open Go

/-- bywash/sign.Join -/
def c39 : RFn := ⟨(.seq (.region (Nodes.flat none (.op (some 4) (.move (.c (.int .i64 0))) 0
  .nil)) false)
 (.seq (.region (Nodes.flat none (.op (some 5) (.move (.t 0)) 0
  (.op (some 6) (.call 62 [(.t 5)]) 0
  (.op (some 7) (.move (.t 1)) 0
  (.op (some 8) (.call 62 [(.t 7)]) 0
  (.op (some 9) (.bin .or (.t 6) (.t 8)) 0
  (.op (some 4) (.move (.t 9)) 0
  .nil))))))) false)
 .ret)),
 [.tmp 4]⟩
theorem b39 : fnOf Go.Proofs.Try.prog (owOf []) 39 = some c39 := by kernel_rfl

/-- bywash/sign.sane -/
def c62 : RFn := ⟨(.seq (.region (Nodes.flat none (.op (some 2) (.move (.c (.int .i64 0))) 0
  .nil)) false)
 (.seq (.seq (.region (Nodes.flat none (.op (some 3) (.move (.t 0)) 0
  (.op (some 4) (.call 76 [(.t 3)]) 0
  (.op (some 5) (.un .not (.t 4)) 0
  .nil)))) false)
 (.cond (.t 5)
 (.seq (.region (Nodes.flat none (.op (some 2) (.move (.c (.int .i64 7))) 0
  .nil)) false)
 .ret)
 .skip))
 (.seq (.region (Nodes.flat none (.op (some 6) (.move (.t 0)) 0
  (.op (some 2) (.move (.t 6)) 0
  .nil))) false)
 .ret))),
 [.tmp 2]⟩
theorem b62 : fnOf Go.Proofs.Try.prog (owOf []) 62 = some c62 := by kernel_rfl

/-- bywash/sign.Leq -/
def c68 : RFn := ⟨(.seq (.region (Nodes.flat none (.op (some 4) (.move (.c (.bool false))) 0
  .nil)) false)
 (.seq (.region (Nodes.flat none (.op (some 5) (.move (.t 0)) 0
  (.op (some 6) (.call 62 [(.t 5)]) 0
  (.op (some 7) (.move (.t 1)) 0
  (.op (some 8) (.call 62 [(.t 7)]) 0
  (.op (some 9) (.bin .andNot (.t 6) (.t 8)) 0
  (.op (some 10) (.bin .eql (.t 9) (.c (.int .i64 0))) 0
  (.op (some 4) (.move (.t 10)) 0
  .nil)))))))) false)
 .ret)),
 [.tmp 4]⟩
theorem b68 : fnOf Go.Proofs.Try.prog (owOf []) 68 = some c68 := by kernel_rfl

/-- bywash/sign.Sane -/
def c76 : RFn := ⟨(.seq (.region (Nodes.flat none (.op (some 2) (.move (.c (.bool false))) 0
  .nil)) false)
 (.seq (.region (Nodes.flat none (.op (some 3) (.move (.t 0)) 0
  (.op (some 4) (.bin .andNot (.t 3) (.c (.int .i64 7))) 0
  (.op (some 5) (.bin .eql (.t 4) (.c (.int .i64 0))) 0
  (.op (some 2) (.move (.t 5)) 0
  .nil))))) false)
 .ret)),
 [.tmp 2]⟩
theorem b76 : fnOf Go.Proofs.Try.prog (owOf []) 76 = some c76 := by kernel_rfl

end Go.Vm
