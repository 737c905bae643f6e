/- Laid. -/
import Derived.Test.YtlcbceneacnaiaaVmThree
import Derived.KernelRfl
import Derived.Test.YtlcbceneacnaiaaProg
/- Code. -/
set_option maxRecDepth 100000
set_option linter.unusedSimpArgs false
set_option linter.unusedVariables false
namespace Go.Vm
open Go

/-- bywash/env.flats -/
def c41 : RFn := ⟨(.seq (.region (Nodes.flat none (.op (some 0) (.alloc (.agg [.nilf, .nilf])) 0
  .nil)) false)
 (.seq (.region (Nodes.flat none (.op (some 1) (.build [.nilf, .nilf] [(0, 1, (.c (.fn 17 []))), (1, 1, (.c (.fn 64 [])))]) 0
  (.op none (.store 2 (.t 0) (.t 1)) 0
  .nil))) false)
 .ret)),
 [.cell (some 2) 0]⟩
theorem b41 : fnOf Go.Proofs.Try.prog (owOf []) 41 = some c41 := by kernel_rfl

/-- (bywash/env.ops[bywash/flat.Val]).joined -/
def c42 : RFn := ⟨(.seq (.region (Nodes.flat none (.op (some 3) (.box (.t 0)) 0
  (.op (some 4) (.box (.t 1)) 0
  (.op (some 5) (.box (.t 2)) 0
  (.op (some 6) (.alloc (.agg [(.bool false), (.lit [])])) 0
  .nil))))) false)
 (.seq (.seq (.region (Nodes.flat none (.op (some 9) (.fieldAddr 0 (.t 4)) 0
  (.op (some 10) (.load none (.t 9)) 0
  (.op (some 11) (.un .not (.t 10)) 0
  .nil)))) false)
 (.cond (.t 11)
 (.region (Nodes.flat none (.op (some 12) (.load (some 2) (.t 5)) 0
  (.op (some 13) (.load (some 2) (.t 4)) 0
  (.op none (.store 2 (.t 4) (.t 12)) 0
  (.op none (.store 2 (.t 5) (.t 13)) 0
  .nil))))) false)
 .skip))
 (.seq (.seq (.region (Nodes.flat none (.op (some 14) (.fieldAddr 0 (.t 5)) 0
  (.op (some 15) (.load none (.t 14)) 0
  (.op (some 16) (.un .not (.t 15)) 0
  .nil)))) false)
 (.cond (.t 16)
 (.seq (.region (Nodes.flat none (.op (some 17) (.load (some 2) (.t 3)) 0
  (.op (some 18) (.load (some 2) (.t 4)) 0
  (.op (some 19) (.call 65 [(.t 17), (.t 18), (.c (.int .i64 0))]) 0
  (.op none (.store 2 (.t 6) (.t 19)) 0
  .nil))))) false)
 .ret)
 .skip))
 (.seq (.region (Nodes.flat none (.op (some 20) (.load (some 2) (.t 3)) 0
  (.op (some 21) (.load (some 2) (.t 4)) 0
  (.op (some 22) (.fieldAddr 1 (.t 5)) 0
  (.op (some 23) (.load none (.t 22)) 0
  (.op (some 24) (.len false (.t 23)) 0
  (.op (some 25) (.call 65 [(.t 20), (.t 21), (.t 24)]) 0
  (.op (some 7) (.alloc (.agg [(.bool false), (.lit [])])) 0
  (.op none (.store 2 (.t 7) (.t 25)) 0
  .nil))))))))) false)
 (.seq (.seq (.region (Nodes.flat none (.op (some 26) (.fieldAddr 1 (.t 7)) 0
  (.op (some 27) (.load none (.t 26)) 0
  (.op (some 28) (.len false (.t 27)) 0
  (.op (some 29) (.move (.c (.int .i64 0))) 0
  .nil))))) false)
 (.block 0 (.loop (.seq (.region (Nodes.flat none (.op (some 30) (.bin .lss (.t 29) (.t 28)) 0
  .nil)) false)
 (.seq (.cond (.t 30)
 .skip
 (.exit 0))
 (.seq (.block 1 (.seq (.region (Nodes.flat none (.op (some 31) (.move (.t 29)) 0
  (.op (some 8) (.move (.t 31)) 0
  .nil))) false)
 (.region (Nodes.flat none (.op (some 32) (.fieldAddr 1 (.t 7)) 0
  (.op (some 33) (.load none (.t 32)) 1
  (.op (some 34) (.move (.t 8)) 0
  (.op (some 35) (.fieldAddr 0 (.t 3)) 0
  (.op (some 36) (.load none (.t 35)) 8
  (.op (some 37) (.fieldAddr 1 (.t 7)) 0
  (.op (some 38) (.load none (.t 37)) 32
  (.op (some 39) (.move (.t 8)) 0
  (.op (some 40) (.idxAddr 2 (.t 38) (.t 39)) 224
  (.op (some 41) (.load (some 2) (.t 40)) 480
  (.op (some 42) (.load (some 2) (.t 3)) 0
  (.op (some 43) (.load (some 2) (.t 5)) 0
  (.op (some 44) (.move (.t 8)) 0
  (.op (some 45) (.call 45 [(.t 42), (.t 43), (.t 44)]) 7168
  (.op (some 46) (.callv (.t 36) [(.t 41), (.t 45)]) 16376
  (.op (some 47) (.idxAddr 2 (.t 33) (.t 34)) 32767
  (.op none (.store 2 (.t 47) (.t 46)) 65535
  .nil)))))))))))))))))) true)))
 (.region (Nodes.flat none (.op (some 48) (.bin .add (.t 29) (.c (.int .i64 1))) 0
  (.op (some 29) (.move (.t 48)) 0
  .nil))) false)))))))
 (.seq (.region (Nodes.flat none (.op (some 49) (.load (some 2) (.t 7)) 0
  (.op none (.store 2 (.t 6) (.t 49)) 0
  .nil))) false)
 .ret)))))),
 [.cell (some 2) 6]⟩
theorem b42 : fnOf Go.Proofs.Try.prog (owOf []) 42 = some c42 := by kernel_rfl

/-- (bywash/env.ops[bywash/flat.Val]).below -/
def c43 : RFn := ⟨(.seq (.region (Nodes.flat none (.op (some 3) (.box (.t 0)) 0
  (.op (some 4) (.box (.t 1)) 0
  (.op (some 5) (.box (.t 2)) 0
  (.op (some 6) (.move (.c (.bool false))) 0
  .nil))))) false)
 (.seq (.seq (.region (Nodes.flat none (.op (some 8) (.fieldAddr 0 (.t 4)) 0
  (.op (some 9) (.load none (.t 8)) 0
  (.op (some 10) (.un .not (.t 9)) 0
  (.op (some 11) (.move (.t 10)) 0
  (.grd 11 false
  (.op (some 12) (.fieldAddr 0 (.t 5)) 0
  (.op (some 13) (.load none (.t 12)) 0
  (.op (some 14) (.un .not (.t 13)) 0
  .nil)))
  (.op (some 15) (.pick (.t 11) (.c (.bool true)) (.t 14)) 0
  .nil))))))) false)
 (.cond (.t 15)
 (.seq (.region (Nodes.flat none (.op (some 16) (.fieldAddr 0 (.t 4)) 0
  (.op (some 17) (.load none (.t 16)) 0
  (.op (some 18) (.un .not (.t 17)) 0
  (.op (some 6) (.move (.t 18)) 0
  .nil))))) false)
 .ret)
 .skip))
 (.seq (.seq (.region (Nodes.flat none (.op (some 19) (.fieldAddr 1 (.t 4)) 0
  (.op (some 20) (.load none (.t 19)) 0
  (.op (some 21) (.len false (.t 20)) 0
  (.op (some 22) (.fieldAddr 1 (.t 5)) 0
  (.op (some 23) (.load none (.t 22)) 0
  (.op (some 24) (.len false (.t 23)) 0
  (.op (some 25) (.mm true (.t 21) [(.t 24)]) 0
  (.op (some 26) (.move (.c (.int .i64 0))) 0
  .nil))))))))) false)
 (.block 0 (.loop (.seq (.region (Nodes.flat none (.op (some 27) (.bin .lss (.t 26) (.t 25)) 0
  .nil)) false)
 (.seq (.cond (.t 27)
 .skip
 (.exit 0))
 (.seq (.block 1 (.seq (.region (Nodes.flat none (.op (some 28) (.move (.t 26)) 0
  (.op (some 7) (.move (.t 28)) 0
  .nil))) false)
 (.seq (.region (Nodes.flat none (.op (some 29) (.fieldAddr 1 (.t 3)) 0
  (.op (some 30) (.load none (.t 29)) 1
  (.op (some 31) (.load (some 2) (.t 3)) 0
  (.op (some 32) (.load (some 2) (.t 4)) 0
  (.op (some 33) (.move (.t 7)) 0
  (.op (some 34) (.call 45 [(.t 31), (.t 32), (.t 33)]) 28
  (.op (some 35) (.load (some 2) (.t 3)) 0
  (.op (some 36) (.load (some 2) (.t 5)) 0
  (.op (some 37) (.move (.t 7)) 0
  (.op (some 38) (.call 45 [(.t 35), (.t 36), (.t 37)]) 508
  (.op (some 39) (.callv (.t 30) [(.t 34), (.t 38)]) 1023
  (.op (some 40) (.un .not (.t 39)) 2047
  .nil))))))))))))) true)
 (.cond (.t 40)
 (.seq (.region (Nodes.flat none (.op (some 6) (.move (.c (.bool false))) 0
  .nil)) false)
 .ret)
 .skip))))
 (.region (Nodes.flat none (.op (some 41) (.bin .add (.t 26) (.c (.int .i64 1))) 0
  (.op (some 26) (.move (.t 41)) 0
  .nil))) false)))))))
 (.seq (.region (Nodes.flat none (.op (some 6) (.move (.c (.bool true))) 0
  .nil)) false)
 .ret)))),
 [.tmp 6]⟩
theorem b43 : fnOf Go.Proofs.Try.prog (owOf []) 43 = some c43 := by kernel_rfl

/-- (bywash/env.ops[bywash/flat.Val]).set -/
def c44 : RFn := ⟨(.seq (.region (Nodes.flat none (.op (some 4) (.box (.t 0)) 0
  (.op (some 5) (.box (.t 1)) 0
  (.op (some 7) (.box (.t 3)) 0
  (.op (some 8) (.alloc (.agg [(.bool false), (.lit [])])) 0
  .nil))))) false)
 (.seq (.region (Nodes.flat none (.op (some 10) (.load (some 2) (.t 4)) 0
  (.op (some 11) (.load (some 2) (.t 5)) 0
  (.op (some 12) (.call 65 [(.t 10), (.t 11), (.c (.int .i64 0))]) 0
  (.op (some 9) (.alloc (.agg [(.bool false), (.lit [])])) 0
  (.op none (.store 2 (.t 9) (.t 12)) 0
  .nil)))))) false)
 (.seq (.seq (.region (Nodes.flat none (.op (some 13) (.move (.t 2)) 0
  (.op (some 14) (.bin .geq (.t 13) (.c (.int .i64 0))) 0
  (.op (some 15) (.move (.t 14)) 0
  (.grd 15 true
  (.op (some 16) (.move (.t 2)) 0
  (.op (some 17) (.fieldAddr 1 (.t 9)) 0
  (.op (some 18) (.load none (.t 17)) 0
  (.op (some 19) (.len false (.t 18)) 0
  (.op (some 20) (.bin .lss (.t 16) (.t 19)) 0
  .nil)))))
  (.op (some 21) (.pick (.t 15) (.t 20) (.c (.bool false))) 0
  .nil)))))) false)
 (.cond (.t 21)
 (.region (Nodes.flat none (.op (some 22) (.fieldAddr 1 (.t 9)) 0
  (.op (some 23) (.load none (.t 22)) 1
  (.op (some 24) (.move (.t 2)) 0
  (.op (some 25) (.load (some 2) (.t 4)) 0
  (.op (some 26) (.load (some 2) (.t 7)) 0
  (.op (some 27) (.call 66 [(.t 25), (.t 26)]) 24
  (.op (some 28) (.idxAddr 2 (.t 23) (.t 24)) 63
  (.op none (.store 2 (.t 28) (.t 27)) 127
  .nil))))))))) true)
 .skip))
 (.seq (.region (Nodes.flat none (.op (some 29) (.load (some 2) (.t 9)) 0
  (.op none (.store 2 (.t 8) (.t 29)) 0
  .nil))) false)
 .ret)))),
 [.cell (some 2) 8]⟩
theorem b44 : fnOf Go.Proofs.Try.prog (owOf []) 44 = some c44 := by kernel_rfl

/-- (bywash/env.ops[bywash/flat.Val]).get -/
def c45 : RFn := ⟨(.seq (.region (Nodes.flat none (.op (some 3) (.box (.t 0)) 0
  (.op (some 4) (.box (.t 1)) 0
  (.op (some 6) (.alloc (.agg [(.int .i64 0), (.int .i64 0)])) 0
  .nil)))) false)
 (.seq (.region (Nodes.flat none (.op (some 7) (.alloc (.agg [(.int .i64 0), (.int .i64 0)])) 0
  .nil)) false)
 (.seq (.seq (.region (Nodes.flat none (.op (some 8) (.fieldAddr 0 (.t 4)) 0
  (.op (some 9) (.load none (.t 8)) 0
  (.op (some 10) (.un .not (.t 9)) 0
  (.op (some 11) (.move (.t 10)) 0
  (.grd 11 false
  (.op (some 12) (.move (.t 2)) 0
  (.op (some 13) (.bin .lss (.t 12) (.c (.int .i64 0))) 0
  .nil))
  (.op (some 14) (.pick (.t 11) (.c (.bool true)) (.t 13)) 0
  (.op (some 15) (.move (.t 14)) 0
  (.grd 15 false
  (.op (some 16) (.move (.t 2)) 0
  (.op (some 17) (.fieldAddr 1 (.t 4)) 0
  (.op (some 18) (.load none (.t 17)) 0
  (.op (some 19) (.len false (.t 18)) 0
  (.op (some 20) (.bin .geq (.t 16) (.t 19)) 0
  .nil)))))
  (.op (some 21) (.pick (.t 15) (.c (.bool true)) (.t 20)) 0
  .nil)))))))))) false)
 (.cond (.t 21)
 (.seq (.region (Nodes.flat none (.op (some 22) (.load (some 2) (.t 7)) 0
  (.op none (.store 2 (.t 6) (.t 22)) 0
  .nil))) false)
 .ret)
 .skip))
 (.seq (.region (Nodes.flat none (.op (some 23) (.load (some 2) (.t 3)) 0
  (.op (some 24) (.fieldAddr 1 (.t 4)) 0
  (.op (some 25) (.load none (.t 24)) 2
  (.op (some 26) (.move (.t 2)) 0
  (.op (some 27) (.idxAddr 2 (.t 25) (.t 26)) 14
  (.op (some 28) (.load (some 2) (.t 27)) 30
  (.op (some 29) (.call 66 [(.t 23), (.t 28)]) 63
  (.op none (.store 2 (.t 6) (.t 29)) 127
  .nil))))))))) true)
 .ret)))),
 [.cell (some 2) 6]⟩
theorem b45 : fnOf Go.Proofs.Try.prog (owOf []) 45 = some c45 := by kernel_rfl

/-- (bywash/env.ops[bywash/flat.Val]).own -/
def c65 : RFn := ⟨(.seq (.region (Nodes.flat none (.op (some 3) (.box (.t 0)) 0
  (.op (some 4) (.box (.t 1)) 0
  (.op (some 6) (.alloc (.agg [(.bool false), (.lit [])])) 0
  .nil)))) false)
 (.seq (.seq (.region (Nodes.flat none (.op (some 9) (.fieldAddr 0 (.t 4)) 0
  (.op (some 10) (.load none (.t 9)) 0
  (.op (some 11) (.un .not (.t 10)) 0
  .nil)))) false)
 (.cond (.t 11)
 (.seq (.region (Nodes.flat none (.op (some 12) (.build [(.bool false), (.lit [])] []) 0
  (.op none (.store 2 (.t 6) (.t 12)) 0
  .nil))) false)
 .ret)
 .skip))
 (.seq (.region (Nodes.flat none (.op (some 13) (.move (.t 2)) 0
  (.op (some 14) (.fieldAddr 1 (.t 4)) 0
  (.op (some 15) (.load none (.t 14)) 0
  (.op (some 16) (.len false (.t 15)) 0
  (.op (some 17) (.mm true (.t 13) [(.t 16)]) 0
  (.op (some 18) (.mkslice 2 (.agg [(.int .i64 0), (.int .i64 0)]) (.t 17)) 0
  (.op (some 19) (.build [(.bool false), (.lit [])] [(0, 1, (.c (.bool true))), (1, 1, (.t 18))]) 0
  (.op (some 7) (.alloc (.agg [(.bool false), (.lit [])])) 0
  (.op none (.store 2 (.t 7) (.t 19)) 0
  .nil)))))))))) false)
 (.seq (.seq (.region (Nodes.flat none (.op (some 20) (.fieldAddr 1 (.t 7)) 0
  (.op (some 21) (.load none (.t 20)) 0
  (.op (some 22) (.len false (.t 21)) 0
  (.op (some 23) (.move (.c (.int .i64 0))) 0
  .nil))))) false)
 (.block 0 (.loop (.seq (.region (Nodes.flat none (.op (some 24) (.bin .lss (.t 23) (.t 22)) 0
  .nil)) false)
 (.seq (.cond (.t 24)
 .skip
 (.exit 0))
 (.seq (.block 1 (.seq (.region (Nodes.flat none (.op (some 25) (.move (.t 23)) 0
  (.op (some 8) (.move (.t 25)) 0
  .nil))) false)
 (.region (Nodes.flat none (.op (some 26) (.fieldAddr 1 (.t 7)) 0
  (.op (some 27) (.load none (.t 26)) 1
  (.op (some 28) (.move (.t 8)) 0
  (.op (some 29) (.load (some 2) (.t 3)) 0
  (.op (some 30) (.load (some 2) (.t 4)) 0
  (.op (some 31) (.move (.t 8)) 0
  (.op (some 32) (.call 45 [(.t 29), (.t 30), (.t 31)]) 56
  (.op (some 33) (.idxAddr 2 (.t 27) (.t 28)) 127
  (.op none (.store 2 (.t 33) (.t 32)) 255
  .nil)))))))))) true)))
 (.region (Nodes.flat none (.op (some 34) (.bin .add (.t 23) (.c (.int .i64 1))) 0
  (.op (some 23) (.move (.t 34)) 0
  .nil))) false)))))))
 (.seq (.region (Nodes.flat none (.op (some 35) (.load (some 2) (.t 7)) 0
  (.op none (.store 2 (.t 6) (.t 35)) 0
  .nil))) false)
 .ret))))),
 [.cell (some 2) 6]⟩
theorem b65 : fnOf Go.Proofs.Try.prog (owOf []) 65 = some c65 := by kernel_rfl

/-- (bywash/env.ops[bywash/flat.Val]).sane -/
def c66 : RFn := ⟨(.seq (.region (Nodes.flat none (.op (some 2) (.box (.t 0)) 0
  (.op (some 3) (.box (.t 1)) 0
  (.op (some 4) (.alloc (.agg [(.int .i64 0), (.int .i64 0)])) 0
  .nil)))) false)
 (.seq (.region (Nodes.flat none (.op (some 5) (.alloc (.agg [(.int .i64 0), (.int .i64 0)])) 0
  .nil)) false)
 (.seq (.region (Nodes.flat none (.op (some 6) (.fieldAddr 0 (.t 2)) 0
  (.op (some 7) (.load none (.t 6)) 0
  (.op (some 8) (.load (some 2) (.t 3)) 0
  (.op (some 9) (.load (some 2) (.t 5)) 0
  (.op (some 10) (.callv (.t 7) [(.t 8), (.t 9)]) 0
  (.op none (.store 2 (.t 4) (.t 10)) 0
  .nil))))))) false)
 .ret))),
 [.cell (some 2) 4]⟩
theorem b66 : fnOf Go.Proofs.Try.prog (owOf []) 66 = some c66 := by kernel_rfl

end Go.Vm
