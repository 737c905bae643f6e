/- Laid. -/
import Derived.Test.YtlcbceneacnaiaaVmThree
import Derived.KernelRfl
import Derived.Test.YtlcbceneacnaiaaProg
/- Code. -/
set_option maxRecDepth 100000
set_option linter.unusedSimpArgs false
set_option linter.unusedVariables false
namespace Go.Vm
open Go

/-- bywash/env.JoinFlat -/
def c11 : RFn := ⟨(.seq (.region (Nodes.flat none (.op (some 2) (.box (.t 0)) 0
  (.op (some 3) (.box (.t 1)) 0
  (.op (some 4) (.alloc (.agg [(.bool false), (.lit [])])) 0
  .nil)))) false)
 (.seq (.region (Nodes.flat none (.op (some 5) (.call 41 []) 0
  (.op (some 6) (.load (some 2) (.t 2)) 0
  (.op (some 7) (.load (some 2) (.t 3)) 0
  (.op (some 8) (.call 42 [(.t 5), (.t 6), (.t 7)]) 7
  (.op none (.store 2 (.t 4) (.t 8)) 15
  .nil)))))) true)
 .ret)),
 [.cell (some 2) 4]⟩
theorem b11 : fnOf Go.Proofs.Try.prog (owOf []) 11 = some c11 := by kernel_rfl

/-- bywash/env.LeqFlat -/
def c12 : RFn := ⟨(.seq (.region (Nodes.flat none (.op (some 2) (.box (.t 0)) 0
  (.op (some 3) (.box (.t 1)) 0
  (.op (some 4) (.move (.c (.bool false))) 0
  .nil)))) false)
 (.seq (.region (Nodes.flat none (.op (some 5) (.call 41 []) 0
  (.op (some 6) (.load (some 2) (.t 2)) 0
  (.op (some 7) (.load (some 2) (.t 3)) 0
  (.op (some 8) (.call 43 [(.t 5), (.t 6), (.t 7)]) 7
  (.op (some 4) (.move (.t 8)) 15
  .nil)))))) true)
 .ret)),
 [.tmp 4]⟩
theorem b12 : fnOf Go.Proofs.Try.prog (owOf []) 12 = some c12 := by kernel_rfl

/-- bywash/env.SetFlat -/
def c15 : RFn := ⟨(.seq (.region (Nodes.flat none (.op (some 3) (.box (.t 0)) 0
  (.op (some 5) (.box (.t 2)) 0
  (.op (some 6) (.alloc (.agg [(.bool false), (.lit [])])) 0
  .nil)))) false)
 (.seq (.region (Nodes.flat none (.op (some 7) (.call 41 []) 0
  (.op (some 8) (.load (some 2) (.t 3)) 0
  (.op (some 9) (.move (.t 1)) 0
  (.op (some 10) (.load (some 2) (.t 5)) 0
  (.op (some 11) (.call 44 [(.t 7), (.t 8), (.t 9), (.t 10)]) 15
  (.op none (.store 2 (.t 6) (.t 11)) 31
  .nil))))))) true)
 .ret)),
 [.cell (some 2) 6]⟩
theorem b15 : fnOf Go.Proofs.Try.prog (owOf []) 15 = some c15 := by kernel_rfl

/-- bywash/env.GetFlat -/
def c16 : RFn := ⟨(.seq (.region (Nodes.flat none (.op (some 2) (.box (.t 0)) 0
  (.op (some 4) (.alloc (.agg [(.int .i64 0), (.int .i64 0)])) 0
  .nil))) false)
 (.seq (.region (Nodes.flat none (.op (some 5) (.call 41 []) 0
  (.op (some 6) (.load (some 2) (.t 2)) 0
  (.op (some 7) (.move (.t 1)) 0
  (.op (some 8) (.call 45 [(.t 5), (.t 6), (.t 7)]) 7
  (.op none (.store 2 (.t 4) (.t 8)) 15
  .nil)))))) true)
 .ret)),
 [.cell (some 2) 4]⟩
theorem b16 : fnOf Go.Proofs.Try.prog (owOf []) 16 = some c16 := by kernel_rfl

/-- bywash/env.Flats -/
def c27 : RFn := ⟨(.seq (.region (Nodes.flat none (.op (some 3) (.box (.t 1)) 0
  (.op (some 4) (.alloc (.agg [(.bool false), (.lit [])])) 0
  .nil))) false)
 (.seq (.region (Nodes.flat none (.op (some 5) (.call 41 []) 0
  (.op (some 6) (.move (.t 0)) 0
  (.op (some 7) (.load (some 2) (.t 3)) 0
  (.op (some 8) (.call 54 [(.t 5), (.t 6), (.t 7)]) 7
  (.op none (.store 2 (.t 4) (.t 8)) 15
  .nil)))))) true)
 .ret)),
 [.cell (some 2) 4]⟩
theorem b27 : fnOf Go.Proofs.Try.prog (owOf []) 27 = some c27 := by kernel_rfl

/-- (bywash/env.ops[bywash/flat.Val]).all -/
def c54 : RFn := ⟨(.seq (.region (Nodes.flat none (.op (some 3) (.box (.t 0)) 0
  (.op (some 5) (.box (.t 2)) 0
  (.op (some 6) (.alloc (.agg [(.bool false), (.lit [])])) 0
  .nil)))) false)
 (.seq (.region (Nodes.flat none (.op (some 7) (.load (some 2) (.t 3)) 0
  (.op (some 8) (.load (some 2) (.t 5)) 0
  (.op (some 9) (.call 66 [(.t 7), (.t 8)]) 0
  (.op (some 10) (.bslice false 2 1 (.agg [(.int .i64 0), (.int .i64 0)]) [(0, (.t 9))]) 0
  (.op (some 11) (.move (.t 1)) 0
  (.op (some 12) (.mm false (.t 11) [(.c (.int .i64 64))]) 0
  (.op (some 13) (.mm true (.c (.int .i64 0)) [(.t 12)]) 0
  (.op (some 14) (.call 71 [(.t 10), (.t 13)]) 0
  (.op (some 15) (.build [(.bool false), (.lit [])] [(0, 1, (.c (.bool true))), (1, 1, (.t 14))]) 0
  (.op none (.store 2 (.t 6) (.t 15)) 0
  .nil))))))))))) false)
 .ret)),
 [.cell (some 2) 6]⟩
theorem b54 : fnOf Go.Proofs.Try.prog (owOf [(1, 3)]) 54 = some c54 := by kernel_rfl

/-- slices.Repeat[[]bywash/flat.Val,bywash/flat.Val] -/
def c71 : RFn := ⟨(.seq (.region (Nodes.flat none (.op (some 4) (.move (.c (.lit []))) 0
  .nil)) false)
 (.seq (.seq (.region (Nodes.flat none (.op (some 9) (.move (.t 1)) 0
  (.op (some 10) (.bin .lss (.t 9) (.c (.int .i64 0))) 0
  .nil))) false)
 (.cond (.t 10)
 (.region (Nodes.flat none (.op (some 11) (.nope) 0
  (.op none (.nope) 0
  .nil))) false)
 .skip))
 (.seq (.region (Nodes.flat none (.op (some 13) (.move (.t 0)) 0
  (.op (some 14) (.len false (.t 13)) 0
  (.op (some 15) (.conv .u64 (.t 14)) 0
  (.op (some 16) (.move (.t 1)) 0
  (.op (some 17) (.conv .u64 (.t 16)) 0
  (.op (some 18) (.call 78 [(.t 15), (.t 17)]) 0
  (.op (some 12) (.move (.t 18)) 0
  (.op (some 19) (.extract 0 (.t 12)) 0
  (.op (some 20) (.extract 1 (.t 12)) 0
  (.op (some 5) (.move (.t 19)) 0
  (.op (some 6) (.move (.t 20)) 0
  .nil)))))))))))) false)
 (.seq (.seq (.region (Nodes.flat none (.op (some 21) (.move (.t 5)) 0
  (.op (some 22) (.bin .gtr (.t 21) (.c (.int .u64 0))) 0
  (.op (some 23) (.move (.t 22)) 0
  (.grd 23 false
  (.op (some 24) (.move (.t 6)) 0
  (.op (some 25) (.bin .gtr (.t 24) (.c (.int .u64 9223372036854775807))) 0
  .nil))
  (.op (some 26) (.pick (.t 23) (.c (.bool true)) (.t 25)) 0
  .nil)))))) false)
 (.cond (.t 26)
 (.region (Nodes.flat none (.op (some 27) (.nope) 0
  (.op none (.nope) 0
  .nil))) false)
 .skip))
 (.seq (.region (Nodes.flat none (.op (some 28) (.move (.t 6)) 0
  (.op (some 29) (.conv .i64 (.t 28)) 0
  (.op (some 30) (.mkslice 2 (.agg [(.int .i64 0), (.int .i64 0)]) (.t 29)) 0
  (.op (some 7) (.move (.t 30)) 0
  .nil))))) false)
 (.seq (.region (Nodes.flat none (.op (some 31) (.move (.t 7)) 0
  (.op (some 32) (.move (.t 0)) 0
  (.op (some 33) (.copy 2 (.t 31) (.t 32)) 0
  (.op (some 8) (.move (.t 33)) 0
  .nil))))) false)
 (.seq (.block 0 (.loop (.seq (.seq (.region (Nodes.flat none (.op (some 34) (.move (.t 8)) 0
  (.op (some 35) (.move (.t 7)) 0
  (.op (some 36) (.len false (.t 35)) 0
  (.op (some 37) (.bin .lss (.t 34) (.t 36)) 0
  .nil))))) false)
 (.cond (.t 37)
 .skip
 (.exit 0)))
 (.block 1 (.region (Nodes.flat none (.op (some 38) (.move (.t 8)) 0
  (.op (some 39) (.move (.t 7)) 0
  (.op (some 40) (.move (.t 8)) 0
  (.op (some 41) (.prim (.sliceSl 2 true false false) [(.t 39), (.t 40)]) 6
  (.op (some 42) (.move (.t 7)) 0
  (.op (some 43) (.move (.t 8)) 0
  (.op (some 44) (.prim (.sliceSl 2 false true false) [(.t 42), (.t 43)]) 48
  (.op (some 45) (.copy 2 (.t 41) (.t 44)) 126
  (.op (some 46) (.bin .add (.t 38) (.t 45)) 255
  (.op (some 8) (.move (.t 46)) 511
  .nil))))))))))) true)))))
 (.seq (.region (Nodes.flat none (.op (some 47) (.move (.t 7)) 0
  (.op (some 4) (.move (.t 47)) 0
  .nil))) false)
 .ret)))))))),
 [.tmp 4]⟩
theorem b71 : fnOf Go.Proofs.Try.prog (owOf []) 71 = some c71 := by kernel_rfl

/-- math/bits.Mul -/
def c78 : RFn := ⟨(.seq (.region (Nodes.flat none (.op (some 4) (.move (.c (.int .u64 0))) 0
  (.op (some 5) (.move (.c (.int .u64 0))) 0
  .nil))) false)
 (.seq (.cond (.c (.bool false))
 (.seq (.region (Nodes.flat none (.op (some 11) (.move (.t 0)) 0
  (.op (some 12) (.conv .u32 (.t 11)) 0
  (.op (some 13) (.move (.t 1)) 0
  (.op (some 14) (.conv .u32 (.t 13)) 0
  (.op (some 15) (.call 80 [(.t 12), (.t 14)]) 0
  (.op (some 10) (.move (.t 15)) 0
  (.op (some 16) (.extract 0 (.t 10)) 0
  (.op (some 17) (.extract 1 (.t 10)) 0
  (.op (some 6) (.move (.t 16)) 0
  (.op (some 7) (.move (.t 17)) 0
  .nil))))))))))) false)
 (.seq (.region (Nodes.flat none (.op (some 18) (.move (.t 6)) 0
  (.op (some 19) (.conv .u64 (.t 18)) 0
  (.op (some 20) (.move (.t 7)) 0
  (.op (some 21) (.conv .u64 (.t 20)) 0
  (.op (some 4) (.move (.t 19)) 0
  (.op (some 5) (.move (.t 21)) 0
  .nil))))))) false)
 .ret))
 .skip)
 (.seq (.region (Nodes.flat none (.op (some 23) (.move (.t 0)) 0
  (.op (some 24) (.move (.t 1)) 0
  (.op (some 25) (.call 81 [(.t 23), (.t 24)]) 0
  (.op (some 22) (.move (.t 25)) 0
  (.op (some 26) (.extract 0 (.t 22)) 0
  (.op (some 27) (.extract 1 (.t 22)) 0
  (.op (some 8) (.move (.t 26)) 0
  (.op (some 9) (.move (.t 27)) 0
  .nil))))))))) false)
 (.seq (.region (Nodes.flat none (.op (some 28) (.move (.t 8)) 0
  (.op (some 29) (.move (.t 9)) 0
  (.op (some 4) (.move (.t 28)) 0
  (.op (some 5) (.move (.t 29)) 0
  .nil))))) false)
 .ret)))),
 [.tmp 4, .tmp 5]⟩
theorem b78 : fnOf Go.Proofs.Try.prog (owOf []) 78 = some c78 := by kernel_rfl

/-- math/bits.Mul64 -/
def c81 : RFn := ⟨(.seq (.region (Nodes.flat none (.op (some 4) (.move (.c (.int .u64 0))) 0
  (.op (some 5) (.move (.c (.int .u64 0))) 0
  .nil))) false)
 (.seq (.region (Nodes.flat none (.op (some 14) (.move (.t 0)) 0
  (.op (some 15) (.bin .and (.t 14) (.c (.int .u64 4294967295))) 0
  (.op (some 6) (.move (.t 15)) 0
  .nil)))) false)
 (.seq (.region (Nodes.flat none (.op (some 16) (.move (.t 0)) 0
  (.op (some 17) (.bin .shr (.t 16) (.c (.int .u64 32))) 0
  (.op (some 7) (.move (.t 17)) 0
  .nil)))) false)
 (.seq (.region (Nodes.flat none (.op (some 18) (.move (.t 1)) 0
  (.op (some 19) (.bin .and (.t 18) (.c (.int .u64 4294967295))) 0
  (.op (some 8) (.move (.t 19)) 0
  .nil)))) false)
 (.seq (.region (Nodes.flat none (.op (some 20) (.move (.t 1)) 0
  (.op (some 21) (.bin .shr (.t 20) (.c (.int .u64 32))) 0
  (.op (some 9) (.move (.t 21)) 0
  .nil)))) false)
 (.seq (.region (Nodes.flat none (.op (some 22) (.move (.t 6)) 0
  (.op (some 23) (.move (.t 8)) 0
  (.op (some 24) (.bin .mul (.t 22) (.t 23)) 0
  (.op (some 10) (.move (.t 24)) 0
  .nil))))) false)
 (.seq (.region (Nodes.flat none (.op (some 25) (.move (.t 7)) 0
  (.op (some 26) (.move (.t 8)) 0
  (.op (some 27) (.bin .mul (.t 25) (.t 26)) 0
  (.op (some 28) (.move (.t 10)) 0
  (.op (some 29) (.bin .shr (.t 28) (.c (.int .u64 32))) 0
  (.op (some 30) (.bin .add (.t 27) (.t 29)) 0
  (.op (some 11) (.move (.t 30)) 0
  .nil)))))))) false)
 (.seq (.region (Nodes.flat none (.op (some 31) (.move (.t 11)) 0
  (.op (some 32) (.bin .and (.t 31) (.c (.int .u64 4294967295))) 0
  (.op (some 12) (.move (.t 32)) 0
  .nil)))) false)
 (.seq (.region (Nodes.flat none (.op (some 33) (.move (.t 11)) 0
  (.op (some 34) (.bin .shr (.t 33) (.c (.int .u64 32))) 0
  (.op (some 13) (.move (.t 34)) 0
  .nil)))) false)
 (.seq (.region (Nodes.flat none (.op (some 35) (.move (.t 12)) 0
  (.op (some 36) (.move (.t 6)) 0
  (.op (some 37) (.move (.t 9)) 0
  (.op (some 38) (.bin .mul (.t 36) (.t 37)) 0
  (.op (some 39) (.bin .add (.t 35) (.t 38)) 0
  (.op (some 12) (.move (.t 39)) 0
  .nil))))))) false)
 (.seq (.region (Nodes.flat none (.op (some 40) (.move (.t 7)) 0
  (.op (some 41) (.move (.t 9)) 0
  (.op (some 42) (.bin .mul (.t 40) (.t 41)) 0
  (.op (some 43) (.move (.t 13)) 0
  (.op (some 44) (.bin .add (.t 42) (.t 43)) 0
  (.op (some 45) (.move (.t 12)) 0
  (.op (some 46) (.bin .shr (.t 45) (.c (.int .u64 32))) 0
  (.op (some 47) (.bin .add (.t 44) (.t 46)) 0
  (.op (some 4) (.move (.t 47)) 0
  .nil)))))))))) false)
 (.seq (.region (Nodes.flat none (.op (some 48) (.move (.t 0)) 0
  (.op (some 49) (.move (.t 1)) 0
  (.op (some 50) (.bin .mul (.t 48) (.t 49)) 0
  (.op (some 5) (.move (.t 50)) 0
  .nil))))) false)
 .ret)))))))))))),
 [.tmp 4, .tmp 5]⟩
theorem b81 : fnOf Go.Proofs.Try.prog (owOf []) 81 = some c81 := by kernel_rfl

end Go.Vm
