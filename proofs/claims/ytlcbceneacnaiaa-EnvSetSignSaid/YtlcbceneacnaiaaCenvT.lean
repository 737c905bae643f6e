/- Laid. -/
import Derived.Test.YtlcbceneacnaiaaVmThree
import Derived.KernelRfl
import Derived.Test.YtlcbceneacnaiaaProg
/- Code. -/
set_option maxRecDepth 100000
set_option linter.unusedSimpArgs false
set_option linter.unusedVariables false
namespace Go.Vm
open Go

/-- bywash/env.JoinSign -/
def c19 : RFn := ⟨(.seq (.region (Nodes.flat none (.op (some 2) (.box (.t 0)) 0
  (.op (some 3) (.box (.t 1)) 0
  (.op (some 4) (.alloc (.agg [(.bool false), (.lit [])])) 0
  .nil)))) false)
 (.seq (.region (Nodes.flat none (.op (some 5) (.call 47 []) 0
  (.op (some 6) (.load (some 2) (.t 2)) 0
  (.op (some 7) (.load (some 2) (.t 3)) 0
  (.op (some 8) (.call 48 [(.t 5), (.t 6), (.t 7)]) 7
  (.op none (.store 2 (.t 4) (.t 8)) 15
  .nil)))))) true)
 .ret)),
 [.cell (some 2) 4]⟩
theorem b19 : fnOf Go.Proofs.Try.prog (owOf []) 19 = some c19 := by kernel_rfl

/-- bywash/env.LeqSign -/
def c20 : RFn := ⟨(.seq (.region (Nodes.flat none (.op (some 2) (.box (.t 0)) 0
  (.op (some 3) (.box (.t 1)) 0
  (.op (some 4) (.move (.c (.bool false))) 0
  .nil)))) false)
 (.seq (.region (Nodes.flat none (.op (some 5) (.call 47 []) 0
  (.op (some 6) (.load (some 2) (.t 2)) 0
  (.op (some 7) (.load (some 2) (.t 3)) 0
  (.op (some 8) (.call 49 [(.t 5), (.t 6), (.t 7)]) 7
  (.op (some 4) (.move (.t 8)) 15
  .nil)))))) true)
 .ret)),
 [.tmp 4]⟩
theorem b20 : fnOf Go.Proofs.Try.prog (owOf []) 20 = some c20 := by kernel_rfl

/-- bywash/env.GetSign -/
def c31 : RFn := ⟨(.seq (.region (Nodes.flat none (.op (some 2) (.box (.t 0)) 0
  (.op (some 4) (.move (.c (.int .i64 0))) 0
  .nil))) false)
 (.seq (.region (Nodes.flat none (.op (some 5) (.call 47 []) 0
  (.op (some 6) (.load (some 2) (.t 2)) 0
  (.op (some 7) (.move (.t 1)) 0
  (.op (some 8) (.call 56 [(.t 5), (.t 6), (.t 7)]) 7
  (.op (some 4) (.move (.t 8)) 15
  .nil)))))) true)
 .ret)),
 [.tmp 4]⟩
theorem b31 : fnOf Go.Proofs.Try.prog (owOf []) 31 = some c31 := by kernel_rfl

/-- bywash/env.SetSign -/
def c35 : RFn := ⟨(.seq (.region (Nodes.flat none (.op (some 3) (.box (.t 0)) 0
  (.op (some 6) (.alloc (.agg [(.bool false), (.lit [])])) 0
  .nil))) false)
 (.seq (.region (Nodes.flat none (.op (some 7) (.call 47 []) 0
  (.op (some 8) (.load (some 2) (.t 3)) 0
  (.op (some 9) (.move (.t 1)) 0
  (.op (some 10) (.move (.t 2)) 0
  (.op (some 11) (.call 60 [(.t 7), (.t 8), (.t 9), (.t 10)]) 15
  (.op none (.store 2 (.t 6) (.t 11)) 31
  .nil))))))) true)
 .ret)),
 [.cell (some 2) 6]⟩
theorem b35 : fnOf Go.Proofs.Try.prog (owOf []) 35 = some c35 := by kernel_rfl

/-- bywash/env.Signs -/
def c37 : RFn := ⟨(.seq (.region (Nodes.flat none (.op (some 4) (.alloc (.agg [(.bool false), (.lit [])])) 0
  .nil)) false)
 (.seq (.region (Nodes.flat none (.op (some 5) (.call 47 []) 0
  (.op (some 6) (.move (.t 0)) 0
  (.op (some 7) (.move (.t 1)) 0
  (.op (some 8) (.call 61 [(.t 5), (.t 6), (.t 7)]) 0
  (.op none (.store 2 (.t 4) (.t 8)) 0
  .nil)))))) false)
 .ret)),
 [.cell (some 2) 4]⟩
theorem b37 : fnOf Go.Proofs.Try.prog (owOf []) 37 = some c37 := by kernel_rfl

/-- (bywash/env.ops[int]).all -/
def c61 : RFn := ⟨(.seq (.region (Nodes.flat none (.op (some 3) (.box (.t 0)) 0
  (.op (some 6) (.alloc (.agg [(.bool false), (.lit [])])) 0
  .nil))) false)
 (.seq (.region (Nodes.flat none (.op (some 7) (.load (some 2) (.t 3)) 0
  (.op (some 8) (.move (.t 2)) 0
  (.op (some 9) (.call 72 [(.t 7), (.t 8)]) 0
  (.op (some 10) (.bslice false 1 1 (.int .i64 0) [(0, (.t 9))]) 0
  (.op (some 11) (.move (.t 1)) 0
  (.op (some 12) (.mm false (.t 11) [(.c (.int .i64 64))]) 0
  (.op (some 13) (.mm true (.c (.int .i64 0)) [(.t 12)]) 0
  (.op (some 14) (.call 75 [(.t 10), (.t 13)]) 0
  (.op (some 15) (.build [(.bool false), (.lit [])] [(0, 1, (.c (.bool true))), (1, 1, (.t 14))]) 0
  (.op none (.store 2 (.t 6) (.t 15)) 0
  .nil))))))))))) false)
 .ret)),
 [.cell (some 2) 6]⟩
theorem b61 : fnOf Go.Proofs.Try.prog (owOf [(1, 3)]) 61 = some c61 := by kernel_rfl

/-- slices.Repeat[[]int,int] -/
def c75 : RFn := ⟨(.seq (.region (Nodes.flat none (.op (some 4) (.move (.c (.lit []))) 0
  .nil)) false)
 (.seq (.seq (.region (Nodes.flat none (.op (some 9) (.move (.t 1)) 0
  (.op (some 10) (.bin .lss (.t 9) (.c (.int .i64 0))) 0
  .nil))) false)
 (.cond (.t 10)
 (.region (Nodes.flat none (.op (some 11) (.nope) 0
  (.op none (.nope) 0
  .nil))) false)
 .skip))
 (.seq (.region (Nodes.flat none (.op (some 13) (.move (.t 0)) 0
  (.op (some 14) (.len false (.t 13)) 0
  (.op (some 15) (.conv .u64 (.t 14)) 0
  (.op (some 16) (.move (.t 1)) 0
  (.op (some 17) (.conv .u64 (.t 16)) 0
  (.op (some 18) (.call 78 [(.t 15), (.t 17)]) 0
  (.op (some 12) (.move (.t 18)) 0
  (.op (some 19) (.extract 0 (.t 12)) 0
  (.op (some 20) (.extract 1 (.t 12)) 0
  (.op (some 5) (.move (.t 19)) 0
  (.op (some 6) (.move (.t 20)) 0
  .nil)))))))))))) false)
 (.seq (.seq (.region (Nodes.flat none (.op (some 21) (.move (.t 5)) 0
  (.op (some 22) (.bin .gtr (.t 21) (.c (.int .u64 0))) 0
  (.op (some 23) (.move (.t 22)) 0
  (.grd 23 false
  (.op (some 24) (.move (.t 6)) 0
  (.op (some 25) (.bin .gtr (.t 24) (.c (.int .u64 9223372036854775807))) 0
  .nil))
  (.op (some 26) (.pick (.t 23) (.c (.bool true)) (.t 25)) 0
  .nil)))))) false)
 (.cond (.t 26)
 (.region (Nodes.flat none (.op (some 27) (.nope) 0
  (.op none (.nope) 0
  .nil))) false)
 .skip))
 (.seq (.region (Nodes.flat none (.op (some 28) (.move (.t 6)) 0
  (.op (some 29) (.conv .i64 (.t 28)) 0
  (.op (some 30) (.mkslice 1 (.int .i64 0) (.t 29)) 0
  (.op (some 7) (.move (.t 30)) 0
  .nil))))) false)
 (.seq (.region (Nodes.flat none (.op (some 31) (.move (.t 7)) 0
  (.op (some 32) (.move (.t 0)) 0
  (.op (some 33) (.copy 1 (.t 31) (.t 32)) 0
  (.op (some 8) (.move (.t 33)) 0
  .nil))))) false)
 (.seq (.block 0 (.loop (.seq (.seq (.region (Nodes.flat none (.op (some 34) (.move (.t 8)) 0
  (.op (some 35) (.move (.t 7)) 0
  (.op (some 36) (.len false (.t 35)) 0
  (.op (some 37) (.bin .lss (.t 34) (.t 36)) 0
  .nil))))) false)
 (.cond (.t 37)
 .skip
 (.exit 0)))
 (.block 1 (.region (Nodes.flat none (.op (some 38) (.move (.t 8)) 0
  (.op (some 39) (.move (.t 7)) 0
  (.op (some 40) (.move (.t 8)) 0
  (.op (some 41) (.prim (.sliceSl 1 true false false) [(.t 39), (.t 40)]) 6
  (.op (some 42) (.move (.t 7)) 0
  (.op (some 43) (.move (.t 8)) 0
  (.op (some 44) (.prim (.sliceSl 1 false true false) [(.t 42), (.t 43)]) 48
  (.op (some 45) (.copy 1 (.t 41) (.t 44)) 126
  (.op (some 46) (.bin .add (.t 38) (.t 45)) 255
  (.op (some 8) (.move (.t 46)) 511
  .nil))))))))))) true)))))
 (.seq (.region (Nodes.flat none (.op (some 47) (.move (.t 7)) 0
  (.op (some 4) (.move (.t 47)) 0
  .nil))) false)
 .ret)))))))),
 [.tmp 4]⟩
theorem b75 : fnOf Go.Proofs.Try.prog (owOf []) 75 = some c75 := by kernel_rfl

end Go.Vm
