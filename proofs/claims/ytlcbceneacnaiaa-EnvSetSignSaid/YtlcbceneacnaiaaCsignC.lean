/- Laid. -/
import Derived.Test.YtlcbceneacnaiaaVmThree
import Derived.KernelRfl
import Derived.Test.YtlcbceneacnaiaaProg
/- Code. -/
set_option maxRecDepth 100000
set_option linter.unusedSimpArgs false
set_option linter.unusedVariables false
namespace Go.Vm
open Go

/-- bywash/bywashref03.Leq -/
def c58 : RFn := ⟨(.seq (.region (Nodes.flat none (.op (some 4) (.move (.c (.bool false))) 0
  .nil)) false)
 (.seq (.region (Nodes.flat none (.op (some 5) (.move (.t 0)) 0
  (.op (some 6) (.move (.t 1)) 0
  (.op (some 7) (.call 73 [(.t 5), (.t 6)]) 0
  (.op (some 8) (.move (.t 1)) 0
  (.op (some 9) (.call 74 [(.t 8)]) 0
  (.op (some 10) (.bin .eql (.t 7) (.t 9)) 0
  (.op (some 4) (.move (.t 10)) 0
  .nil)))))))) false)
 .ret)),
 [.tmp 4]⟩
theorem b58 : fnOf Go.Proofs.Try.prog (owOf []) 58 = some c58 := by kernel_rfl

/-- bywash/bywashref03.Join -/
def c73 : RFn := ⟨(.seq (.region (Nodes.flat none (.op (some 4) (.move (.c (.int .i64 0))) 0
  .nil)) false)
 (.seq (.region (Nodes.flat none (.op (some 5) (.move (.t 0)) 0
  (.op (some 6) (.call 74 [(.t 5)]) 0
  (.op (some 7) (.move (.t 1)) 0
  (.op (some 8) (.call 74 [(.t 7)]) 0
  (.op (some 9) (.bin .or (.t 6) (.t 8)) 0
  (.op (some 4) (.move (.t 9)) 0
  .nil))))))) false)
 .ret)),
 [.tmp 4]⟩
theorem b73 : fnOf Go.Proofs.Try.prog (owOf []) 73 = some c73 := by kernel_rfl

/-- bywash/bywashref03.sane -/
def c74 : RFn := ⟨(.seq (.region (Nodes.flat none (.op (some 2) (.move (.c (.int .i64 0))) 0
  .nil)) false)
 (.seq (.seq (.region (Nodes.flat none (.op (some 3) (.move (.t 0)) 0
  (.op (some 4) (.call 79 [(.t 3)]) 0
  (.op (some 5) (.un .not (.t 4)) 0
  .nil)))) false)
 (.cond (.t 5)
 (.seq (.region (Nodes.flat none (.op (some 2) (.move (.c (.int .i64 7))) 0
  .nil)) false)
 .ret)
 .skip))
 (.seq (.region (Nodes.flat none (.op (some 6) (.move (.t 0)) 0
  (.op (some 2) (.move (.t 6)) 0
  .nil))) false)
 .ret))),
 [.tmp 2]⟩
theorem b74 : fnOf Go.Proofs.Try.prog (owOf []) 74 = some c74 := by kernel_rfl

/-- bywash/bywashref03.Sane -/
def c79 : RFn := ⟨(.seq (.region (Nodes.flat none (.op (some 2) (.move (.c (.bool false))) 0
  .nil)) false)
 (.seq (.region (Nodes.flat none (.op (some 3) (.move (.t 0)) 0
  (.op (some 4) (.bin .geq (.t 3) (.c (.int .i64 0))) 0
  (.op (some 5) (.move (.t 4)) 0
  (.grd 5 true
  (.op (some 6) (.move (.t 0)) 0
  (.op (some 7) (.bin .leq (.t 6) (.c (.int .i64 7))) 0
  .nil))
  (.op (some 8) (.pick (.t 5) (.t 7) (.c (.bool false))) 0
  (.op (some 2) (.move (.t 8)) 0
  .nil))))))) false)
 .ret)),
 [.tmp 2]⟩
theorem b79 : fnOf Go.Proofs.Try.prog (owOf []) 79 = some c79 := by kernel_rfl

end Go.Vm
