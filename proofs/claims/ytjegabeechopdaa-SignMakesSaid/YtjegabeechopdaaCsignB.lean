/- Code. -/
import Derived.Test.YtjegabeechopdaaVnC
import Derived.KernelRfl
import Derived.Test.YtjegabeechopdaaProg
set_option maxRecDepth 100000
set_option linter.unusedSimpArgs false
set_option linter.unusedVariables false
namespace Go.Vm
open Go

/-- bywash/sign.Add -/
def c47 : RFn := ⟨(.seq (.region (Nodes.flat none (.op (some 4) (.move (.c (.int .i64 0))) 0
  .nil)) false)
 (.seq (.region (Nodes.flat none (.op (some 5) (.call 98 []) 0
  (.op (some 6) (.move (.t 0)) 0
  (.op (some 7) (.move (.t 1)) 0
  (.op (some 8) (.call 99 [(.t 5), (.t 6), (.t 7)]) 0
  (.op (some 4) (.move (.t 8)) 0
  .nil)))))) false)
 .ret)),
 [.tmp 4]⟩
theorem b47 : fnOf Go.Proofs.Try.prog (owOf []) 47 = some c47 := by kernel_rfl

/-- bywash/sign.Mul -/
def c48 : RFn := ⟨(.seq (.region (Nodes.flat none (.op (some 4) (.move (.c (.int .i64 0))) 0
  .nil)) false)
 (.seq (.region (Nodes.flat none (.op (some 5) (.call 100 []) 0
  (.op (some 6) (.move (.t 0)) 0
  (.op (some 7) (.move (.t 1)) 0
  (.op (some 8) (.call 99 [(.t 5), (.t 6), (.t 7)]) 0
  (.op (some 4) (.move (.t 8)) 0
  .nil)))))) false)
 .ret)),
 [.tmp 4]⟩
theorem b48 : fnOf Go.Proofs.Try.prog (owOf []) 48 = some c48 := by kernel_rfl

/-- bywash/sign.Sub -/
def c49 : RFn := ⟨(.seq (.region (Nodes.flat none (.op (some 4) (.move (.c (.int .i64 0))) 0
  .nil)) false)
 (.seq (.region (Nodes.flat none (.op (some 5) (.move (.t 0)) 0
  (.op (some 6) (.move (.t 1)) 0
  (.op (some 7) (.call 50 [(.t 6)]) 0
  (.op (some 8) (.call 47 [(.t 5), (.t 7)]) 0
  (.op (some 4) (.move (.t 8)) 0
  .nil)))))) false)
 .ret)),
 [.tmp 4]⟩
theorem b49 : fnOf Go.Proofs.Try.prog (owOf []) 49 = some c49 := by kernel_rfl

/-- bywash/sign.Neg -/
def c50 : RFn := ⟨(.seq (.region (Nodes.flat none (.op (some 2) (.move (.c (.int .i64 0))) 0
  .nil)) false)
 (.seq (.region (Nodes.flat none (.op (some 3) (.move (.t 0)) 0
  (.op (some 4) (.call 48 [(.t 3), (.c (.int .i64 1))]) 0
  (.op (some 2) (.move (.t 4)) 0
  .nil)))) false)
 .ret)),
 [.tmp 2]⟩
theorem b50 : fnOf Go.Proofs.Try.prog (owOf []) 50 = some c50 := by kernel_rfl

/-- bywash/sign.sums -/
def c98 : RFn := ⟨(.seq (.region (Nodes.flat none (.op (some 0) (.alloc (.agg [(.int .i64 0), (.int .i64 0), (.int .i64 0), (.int .i64 0), (.int .i64 0), (.int .i64 0), (.int .i64 0), (.int .i64 0), (.int .i64 0)])) 0
  .nil)) false)
 (.seq (.region (Nodes.flat none (.op (some 1) (.build [(.int .i64 0), (.int .i64 0), (.int .i64 0)] [(0, 1, (.c (.int .i64 1))), (1, 1, (.c (.int .i64 1))), (2, 1, (.c (.int .i64 7)))]) 0
  (.op (some 2) (.build [(.int .i64 0), (.int .i64 0), (.int .i64 0)] [(0, 1, (.c (.int .i64 1))), (1, 1, (.c (.int .i64 2))), (2, 1, (.c (.int .i64 4)))]) 0
  (.op (some 3) (.build [(.int .i64 0), (.int .i64 0), (.int .i64 0)] [(0, 1, (.c (.int .i64 7))), (1, 1, (.c (.int .i64 4))), (2, 1, (.c (.int .i64 4)))]) 0
  (.op (some 4) (.build [(.int .i64 0), (.int .i64 0), (.int .i64 0), (.int .i64 0), (.int .i64 0), (.int .i64 0), (.int .i64 0), (.int .i64 0), (.int .i64 0)] [(0, 3, (.t 1)), (3, 3, (.t 2)), (6, 3, (.t 3))]) 0
  (.op none (.store 9 (.t 0) (.t 4)) 0
  .nil)))))) false)
 .ret)),
 [.cell (some 9) 0]⟩
theorem b98 : fnOf Go.Proofs.Try.prog (owOf []) 98 = some c98 := by kernel_rfl

/-- (bywash/sign.table).of -/
def c99 : RFn := ⟨(.seq (.region (Nodes.flat none (.op (some 3) (.box (.t 0)) 0
  (.op (some 6) (.move (.c (.int .i64 0))) 0
  .nil))) false)
 (.seq (.region (Nodes.flat none (.op (some 7) (.move (.c (.int .i64 0))) 0
  .nil)) false)
 (.seq (.seq (.region (Nodes.flat none (.op (some 12) (.move (.t 1)) 0
  (.op (some 13) (.call 52 [(.t 12)]) 0
  (.op (some 14) (.len false (.t 13)) 0
  (.op (some 15) (.move (.c (.int .i64 0))) 0
  .nil))))) false)
 (.block 0 (.loop (.seq (.region (Nodes.flat none (.op (some 16) (.bin .lss (.t 15) (.t 14)) 0
  .nil)) false)
 (.seq (.cond (.t 16)
 .skip
 (.exit 0))
 (.seq (.block 1 (.seq (.region (Nodes.flat none (.op (some 17) (.idxAddr 1 (.t 13) (.t 15)) 0
  (.op (some 18) (.load none (.t 17)) 0
  (.op (some 9) (.move (.t 18)) 0
  .nil)))) false)
 (.seq (.region (Nodes.flat none (.op (some 19) (.move (.t 2)) 0
  (.op (some 20) (.call 52 [(.t 19)]) 0
  (.op (some 21) (.len false (.t 20)) 0
  (.op (some 22) (.move (.c (.int .i64 0))) 0
  .nil))))) false)
 (.block 2 (.loop (.seq (.region (Nodes.flat none (.op (some 23) (.bin .lss (.t 22) (.t 21)) 0
  .nil)) false)
 (.seq (.cond (.t 23)
 .skip
 (.exit 2))
 (.seq (.block 3 (.seq (.region (Nodes.flat none (.op (some 24) (.idxAddr 1 (.t 20) (.t 22)) 0
  (.op (some 25) (.load none (.t 24)) 0
  (.op (some 11) (.move (.t 25)) 0
  .nil)))) false)
 (.region (Nodes.flat none (.op (some 26) (.move (.t 7)) 0
  (.op (some 27) (.move (.t 9)) 0
  (.op (some 28) (.bin .add (.t 27) (.c (.int .i64 1))) 0
  (.op (some 29) (.move (.t 11)) 0
  (.op (some 30) (.bin .add (.t 29) (.c (.int .i64 1))) 0
  (.op (some 31) (.idxAddrA 3 3 (.t 3) (.t 28)) 0
  (.op (some 32) (.idxAddrA 3 1 (.t 31) (.t 30)) 0
  (.op (some 33) (.load none (.t 32)) 0
  (.op (some 34) (.bin .or (.t 26) (.t 33)) 0
  (.op (some 7) (.move (.t 34)) 0
  .nil))))))))))) false)))
 (.region (Nodes.flat none (.op (some 35) (.bin .add (.t 22) (.c (.int .i64 1))) 0
  (.op (some 22) (.move (.t 35)) 0
  .nil))) false)))))))))
 (.region (Nodes.flat none (.op (some 36) (.bin .add (.t 15) (.c (.int .i64 1))) 0
  (.op (some 15) (.move (.t 36)) 0
  .nil))) false)))))))
 (.seq (.region (Nodes.flat none (.op (some 37) (.move (.t 7)) 0
  (.op (some 6) (.move (.t 37)) 0
  .nil))) false)
 .ret)))),
 [.tmp 6]⟩
theorem b99 : fnOf Go.Proofs.Try.prog (owOf []) 99 = some c99 := by kernel_rfl

/-- bywash/sign.products -/
def c100 : RFn := ⟨(.seq (.region (Nodes.flat none (.op (some 0) (.alloc (.agg [(.int .i64 0), (.int .i64 0), (.int .i64 0), (.int .i64 0), (.int .i64 0), (.int .i64 0), (.int .i64 0), (.int .i64 0), (.int .i64 0)])) 0
  .nil)) false)
 (.seq (.region (Nodes.flat none (.op (some 1) (.build [(.int .i64 0), (.int .i64 0), (.int .i64 0)] [(0, 1, (.c (.int .i64 4))), (1, 1, (.c (.int .i64 2))), (2, 1, (.c (.int .i64 1)))]) 0
  (.op (some 2) (.build [(.int .i64 0), (.int .i64 0), (.int .i64 0)] [(0, 1, (.c (.int .i64 2))), (1, 1, (.c (.int .i64 2))), (2, 1, (.c (.int .i64 2)))]) 0
  (.op (some 3) (.build [(.int .i64 0), (.int .i64 0), (.int .i64 0)] [(0, 1, (.c (.int .i64 1))), (1, 1, (.c (.int .i64 2))), (2, 1, (.c (.int .i64 4)))]) 0
  (.op (some 4) (.build [(.int .i64 0), (.int .i64 0), (.int .i64 0), (.int .i64 0), (.int .i64 0), (.int .i64 0), (.int .i64 0), (.int .i64 0), (.int .i64 0)] [(0, 3, (.t 1)), (3, 3, (.t 2)), (6, 3, (.t 3))]) 0
  (.op none (.store 9 (.t 0) (.t 4)) 0
  .nil)))))) false)
 .ret)),
 [.cell (some 9) 0]⟩
theorem b100 : fnOf Go.Proofs.Try.prog (owOf []) 100 = some c100 := by kernel_rfl

end Go.Vm
