/- Code. -/
import Derived.Test.YtjegabeechopdaaVnC
import Derived.KernelRfl
import Derived.Test.YtjegabeechopdaaProg
set_option maxRecDepth 100000
set_option linter.unusedSimpArgs false
set_option linter.unusedVariables false
namespace Go.Vm
open Go

/-- bywash/sign.Height -/
def c53 : RFn := ⟨(.seq (.region (Nodes.flat none (.op (some 2) (.move (.c (.int .i64 0))) 0
  .nil)) false)
 (.seq (.region (Nodes.flat none (.op (some 3) (.move (.t 0)) 0
  (.op (some 4) (.call 97 [(.t 3)]) 0
  (.op (some 5) (.conv .u64 (.t 4)) 0
  (.op (some 6) (.call 101 [(.t 5)]) 0
  (.op (some 2) (.move (.t 6)) 0
  .nil)))))) false)
 .ret)),
 [.tmp 2]⟩
theorem b53 : fnOf Go.Proofs.Try.prog (owOf []) 53 = some c53 := by kernel_rfl

/-- bywash/bywashref01.Ints -/
def c59 : RFn := ⟨(.seq (.region (Nodes.flat none (.op (some 4) (.move (.c (.bool false))) 0
  .nil)) false)
 (.seq (.seq (.region (Nodes.flat none (.op (some 6) (.move (.t 0)) 0
  (.op (some 7) (.len false (.t 6)) 0
  (.op (some 8) (.move (.t 1)) 0
  (.op (some 9) (.len false (.t 8)) 0
  (.op (some 10) (.bin .neq (.t 7) (.t 9)) 0
  .nil)))))) false)
 (.cond (.t 10)
 (.seq (.region (Nodes.flat none (.op (some 4) (.move (.c (.bool false))) 0
  .nil)) false)
 .ret)
 .skip))
 (.seq (.seq (.region (Nodes.flat none (.op (some 5) (.move (.c (.int .i64 0))) 0
  .nil)) false)
 (.block 0 (.loop (.seq (.seq (.region (Nodes.flat none (.op (some 11) (.move (.t 5)) 0
  (.op (some 12) (.move (.t 0)) 0
  (.op (some 13) (.len false (.t 12)) 0
  (.op (some 14) (.bin .lss (.t 11) (.t 13)) 0
  .nil))))) false)
 (.cond (.t 14)
 .skip
 (.exit 0)))
 (.seq (.block 1 (.seq (.region (Nodes.flat none (.op (some 17) (.move (.t 0)) 0
  (.op (some 18) (.move (.t 5)) 0
  (.op (some 19) (.idxAddr 1 (.t 17) (.t 18)) 3
  (.op (some 20) (.load none (.t 19)) 7
  (.op (some 21) (.move (.t 1)) 0
  (.op (some 22) (.move (.t 5)) 0
  (.op (some 23) (.idxAddr 1 (.t 21) (.t 22)) 48
  (.op (some 24) (.load none (.t 23)) 112
  (.op (some 25) (.bin .neq (.t 20) (.t 24)) 255
  .nil)))))))))) true)
 (.cond (.t 25)
 (.seq (.region (Nodes.flat none (.op (some 4) (.move (.c (.bool false))) 0
  .nil)) false)
 .ret)
 .skip)))
 (.region (Nodes.flat none (.op (some 15) (.move (.t 5)) 0
  (.op (some 16) (.bin .add (.t 15) (.c (.int .i64 1))) 0
  (.op (some 5) (.move (.t 16)) 0
  .nil)))) false))))))
 (.seq (.region (Nodes.flat none (.op (some 4) (.move (.c (.bool true))) 0
  .nil)) false)
 .ret)))),
 [.tmp 4]⟩
theorem b59 : fnOf Go.Proofs.Try.prog (owOf []) 59 = some c59 := by kernel_rfl

/-- math/bits.OnesCount -/
def c101 : RFn := ⟨(.seq (.region (Nodes.flat none (.op (some 2) (.move (.c (.int .i64 0))) 0
  .nil)) false)
 (.seq (.cond (.c (.bool false))
 (.seq (.region (Nodes.flat none (.op (some 3) (.move (.t 0)) 0
  (.op (some 4) (.conv .u32 (.t 3)) 0
  (.op (some 5) (.call 116 [(.t 4)]) 0
  (.op (some 2) (.move (.t 5)) 0
  .nil))))) false)
 .ret)
 .skip)
 (.seq (.region (Nodes.flat none (.op (some 6) (.move (.t 0)) 0
  (.op (some 7) (.call 111 [(.t 6)]) 0
  (.op (some 2) (.move (.t 7)) 0
  .nil)))) false)
 .ret))),
 [.tmp 2]⟩
theorem b101 : fnOf Go.Proofs.Try.prog (owOf []) 101 = some c101 := by kernel_rfl

/-- math/bits.OnesCount64 -/
def c111 : RFn := ⟨(.seq (.region (Nodes.flat none (.op (some 2) (.move (.c (.int .i64 0))) 0
  .nil)) false)
 (.seq (.region (Nodes.flat none (.op (some 3) (.move (.t 0)) 0
  (.op (some 4) (.bin .shr (.t 3) (.c (.int .u64 1))) 0
  (.op (some 5) (.bin .and (.t 4) (.c (.int .u64 6148914691236517205))) 0
  (.op (some 6) (.move (.t 0)) 0
  (.op (some 7) (.bin .and (.t 6) (.c (.int .u64 6148914691236517205))) 0
  (.op (some 8) (.bin .add (.t 5) (.t 7)) 0
  (.op (some 0) (.move (.t 8)) 0
  .nil)))))))) false)
 (.seq (.region (Nodes.flat none (.op (some 9) (.move (.t 0)) 0
  (.op (some 10) (.bin .shr (.t 9) (.c (.int .u64 2))) 0
  (.op (some 11) (.bin .and (.t 10) (.c (.int .u64 3689348814741910323))) 0
  (.op (some 12) (.move (.t 0)) 0
  (.op (some 13) (.bin .and (.t 12) (.c (.int .u64 3689348814741910323))) 0
  (.op (some 14) (.bin .add (.t 11) (.t 13)) 0
  (.op (some 0) (.move (.t 14)) 0
  .nil)))))))) false)
 (.seq (.region (Nodes.flat none (.op (some 15) (.move (.t 0)) 0
  (.op (some 16) (.bin .shr (.t 15) (.c (.int .u64 4))) 0
  (.op (some 17) (.move (.t 0)) 0
  (.op (some 18) (.bin .add (.t 16) (.t 17)) 0
  (.op (some 19) (.bin .and (.t 18) (.c (.int .u64 1085102592571150095))) 0
  (.op (some 0) (.move (.t 19)) 0
  .nil))))))) false)
 (.seq (.region (Nodes.flat none (.op (some 20) (.move (.t 0)) 0
  (.op (some 21) (.move (.t 0)) 0
  (.op (some 22) (.bin .shr (.t 21) (.c (.int .u64 8))) 0
  (.op (some 23) (.bin .add (.t 20) (.t 22)) 0
  (.op (some 0) (.move (.t 23)) 0
  .nil)))))) false)
 (.seq (.region (Nodes.flat none (.op (some 24) (.move (.t 0)) 0
  (.op (some 25) (.move (.t 0)) 0
  (.op (some 26) (.bin .shr (.t 25) (.c (.int .u64 16))) 0
  (.op (some 27) (.bin .add (.t 24) (.t 26)) 0
  (.op (some 0) (.move (.t 27)) 0
  .nil)))))) false)
 (.seq (.region (Nodes.flat none (.op (some 28) (.move (.t 0)) 0
  (.op (some 29) (.move (.t 0)) 0
  (.op (some 30) (.bin .shr (.t 29) (.c (.int .u64 32))) 0
  (.op (some 31) (.bin .add (.t 28) (.t 30)) 0
  (.op (some 0) (.move (.t 31)) 0
  .nil)))))) false)
 (.seq (.region (Nodes.flat none (.op (some 32) (.move (.t 0)) 0
  (.op (some 33) (.conv .i64 (.t 32)) 0
  (.op (some 34) (.bin .and (.t 33) (.c (.int .i64 127))) 0
  (.op (some 2) (.move (.t 34)) 0
  .nil))))) false)
 .ret)))))))),
 [.tmp 2]⟩
theorem b111 : fnOf Go.Proofs.Try.prog (owOf []) 111 = some c111 := by kernel_rfl

end Go.Vm
