/- Code. -/
import Derived.Test.YtjegabeechopdaaVnC
import Derived.KernelRfl
import Derived.Test.YtjegabeechopdaaProg
set_option maxRecDepth 100000
set_option linter.unusedSimpArgs false
set_option linter.unusedVariables false
namespace Go.Vm
open Go

/-- bywash/sign.Leq -/
def c44 : RFn := ⟨(.seq (.region (Nodes.flat none (.op (some 4) (.move (.c (.bool false))) 0
  .nil)) false)
 (.seq (.region (Nodes.flat none (.op (some 5) (.move (.t 0)) 0
  (.op (some 6) (.call 97 [(.t 5)]) 0
  (.op (some 7) (.move (.t 1)) 0
  (.op (some 8) (.call 97 [(.t 7)]) 0
  (.op (some 9) (.bin .andNot (.t 6) (.t 8)) 0
  (.op (some 10) (.bin .eql (.t 9) (.c (.int .i64 0))) 0
  (.op (some 4) (.move (.t 10)) 0
  .nil)))))))) false)
 .ret)),
 [.tmp 4]⟩
theorem b44 : fnOf Go.Proofs.Try.prog (owOf []) 44 = some c44 := by kernel_rfl

/-- bywash/sign.Of -/
def c45 : RFn := ⟨(.seq (.region (Nodes.flat none (.op (some 2) (.move (.c (.int .i64 0))) 0
  .nil)) false)
 (.seq (.block 0 (.seq (.region (Nodes.flat none (.op (some 4) (.move (.t 0)) 0
  (.op (some 5) (.bin .lss (.t 4) (.c (.int .i64 0))) 0
  (.op (some 3) (.move (.t 5)) 0
  .nil)))) false)
 (.cond (.t 3)
 (.seq (.region (Nodes.flat none (.op (some 2) (.move (.c (.int .i64 1))) 0
  .nil)) false)
 .ret)
 (.seq (.region (Nodes.flat none (.op (some 7) (.move (.t 0)) 0
  (.op (some 8) (.bin .gtr (.t 7) (.c (.int .i64 0))) 0
  (.op (some 6) (.move (.t 8)) 0
  .nil)))) false)
 (.cond (.t 6)
 (.seq (.region (Nodes.flat none (.op (some 2) (.move (.c (.int .i64 4))) 0
  .nil)) false)
 .ret)
 .skip)))))
 (.seq (.region (Nodes.flat none (.op (some 2) (.move (.c (.int .i64 2))) 0
  .nil)) false)
 .ret))),
 [.tmp 2]⟩
theorem b45 : fnOf Go.Proofs.Try.prog (owOf []) 45 = some c45 := by kernel_rfl

/-- bywash/sign.Join -/
def c46 : RFn := ⟨(.seq (.region (Nodes.flat none (.op (some 4) (.move (.c (.int .i64 0))) 0
  .nil)) false)
 (.seq (.region (Nodes.flat none (.op (some 5) (.move (.t 0)) 0
  (.op (some 6) (.call 97 [(.t 5)]) 0
  (.op (some 7) (.move (.t 1)) 0
  (.op (some 8) (.call 97 [(.t 7)]) 0
  (.op (some 9) (.bin .or (.t 6) (.t 8)) 0
  (.op (some 4) (.move (.t 9)) 0
  .nil))))))) false)
 .ret)),
 [.tmp 4]⟩
theorem b46 : fnOf Go.Proofs.Try.prog (owOf []) 46 = some c46 := by kernel_rfl

/-- bywash/sign.List -/
def c52 : RFn := ⟨(.seq (.region (Nodes.flat none (.op (some 2) (.move (.c (.lit []))) 0
  .nil)) false)
 (.seq (.region (Nodes.flat none (.op (some 3) (.move (.c (.lit []))) 0
  .nil)) false)
 (.seq (.seq (.region (Nodes.flat none (.op (some 5) (.move (.c (.int .i64 0))) 0
  .nil)) false)
 (.block 0 (.loop (.seq (.region (Nodes.flat none (.op (some 6) (.bin .lss (.t 5) (.c (.int .i64 3))) 0
  .nil)) false)
 (.seq (.cond (.t 6)
 .skip
 (.exit 0))
 (.seq (.block 1 (.seq (.region (Nodes.flat none (.op (some 7) (.move (.t 5)) 0
  (.op (some 4) (.move (.t 7)) 0
  .nil))) false)
 (.seq (.region (Nodes.flat none (.op (some 8) (.move (.t 0)) 0
  (.op (some 9) (.call 97 [(.t 8)]) 0
  (.op (some 10) (.move (.t 4)) 0
  (.op (some 11) (.conv .u64 (.t 10)) 0
  (.op (some 12) (.bin .shr (.t 9) (.t 11)) 0
  (.op (some 13) (.bin .and (.t 12) (.c (.int .i64 1))) 0
  (.op (some 14) (.bin .eql (.t 13) (.c (.int .i64 1))) 0
  .nil)))))))) false)
 (.cond (.t 14)
 (.region (Nodes.flat none (.op (some 15) (.move (.t 3)) 0
  (.op (some 16) (.move (.t 4)) 0
  (.op (some 17) (.bin .sub (.t 16) (.c (.int .i64 1))) 0
  (.op (some 18) (.bslice false 1 1 (.int .i64 0) [(0, (.t 17))]) 0
  (.op (some 19) (.append 1 (.int .i64 0) (.t 15) (.t 18)) 0
  (.op (some 3) (.move (.t 19)) 0
  .nil))))))) false)
 .skip))))
 (.region (Nodes.flat none (.op (some 20) (.bin .add (.t 5) (.c (.int .i64 1))) 0
  (.op (some 5) (.move (.t 20)) 0
  .nil))) false)))))))
 (.seq (.region (Nodes.flat none (.op (some 21) (.move (.t 3)) 0
  (.op (some 2) (.move (.t 21)) 0
  .nil))) false)
 .ret)))),
 [.tmp 2]⟩
theorem b52 : fnOf Go.Proofs.Try.prog (owOf [(6, 3)]) 52 = some c52 := by kernel_rfl

/-- bywash/sign.Sane -/
def c54 : RFn := ⟨(.seq (.region (Nodes.flat none (.op (some 2) (.move (.c (.bool false))) 0
  .nil)) false)
 (.seq (.region (Nodes.flat none (.op (some 3) (.move (.t 0)) 0
  (.op (some 4) (.bin .andNot (.t 3) (.c (.int .i64 7))) 0
  (.op (some 5) (.bin .eql (.t 4) (.c (.int .i64 0))) 0
  (.op (some 2) (.move (.t 5)) 0
  .nil))))) false)
 .ret)),
 [.tmp 2]⟩
theorem b54 : fnOf Go.Proofs.Try.prog (owOf []) 54 = some c54 := by kernel_rfl

/-- bywash/sign.sane -/
def c97 : RFn := ⟨(.seq (.region (Nodes.flat none (.op (some 2) (.move (.c (.int .i64 0))) 0
  .nil)) false)
 (.seq (.seq (.region (Nodes.flat none (.op (some 3) (.move (.t 0)) 0
  (.op (some 4) (.call 54 [(.t 3)]) 0
  (.op (some 5) (.un .not (.t 4)) 0
  .nil)))) false)
 (.cond (.t 5)
 (.seq (.region (Nodes.flat none (.op (some 2) (.move (.c (.int .i64 7))) 0
  .nil)) false)
 .ret)
 .skip))
 (.seq (.region (Nodes.flat none (.op (some 6) (.move (.t 0)) 0
  (.op (some 2) (.move (.t 6)) 0
  .nil))) false)
 .ret))),
 [.tmp 2]⟩
theorem b97 : fnOf Go.Proofs.Try.prog (owOf []) 97 = some c97 := by kernel_rfl

end Go.Vm
