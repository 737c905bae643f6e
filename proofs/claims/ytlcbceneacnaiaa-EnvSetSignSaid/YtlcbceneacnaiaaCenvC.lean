/- Laid. -/
import Derived.Test.YtlcbceneacnaiaaVmThree
import Derived.KernelRfl
import Derived.Test.YtlcbceneacnaiaaProg
/- Code. -/
set_option maxRecDepth 100000
set_option linter.unusedSimpArgs false
set_option linter.unusedVariables false
namespace Go.Vm
open Go

/-- bywash/bywashref04.GetFlat -/
def c23 : RFn := ⟨(.seq (.region (Nodes.flat none (.op (some 2) (.box (.t 0)) 0
  (.op (some 4) (.alloc (.agg [(.int .i64 0), (.int .i64 0)])) 0
  .nil))) false)
 (.seq (.seq (.region (Nodes.flat none (.op (some 5) (.fieldAddr 0 (.t 2)) 0
  (.op (some 6) (.load none (.t 5)) 0
  (.op (some 7) (.un .not (.t 6)) 0
  (.op (some 8) (.move (.t 7)) 0
  (.grd 8 false
  (.op (some 9) (.move (.t 1)) 0
  (.op (some 10) (.bin .lss (.t 9) (.c (.int .i64 0))) 0
  .nil))
  (.op (some 11) (.pick (.t 8) (.c (.bool true)) (.t 10)) 0
  (.op (some 12) (.move (.t 11)) 0
  (.grd 12 false
  (.op (some 13) (.move (.t 1)) 0
  (.op (some 14) (.fieldAddr 1 (.t 2)) 0
  (.op (some 15) (.load none (.t 14)) 0
  (.op (some 16) (.len false (.t 15)) 0
  (.op (some 17) (.bin .geq (.t 13) (.t 16)) 0
  .nil)))))
  (.op (some 18) (.pick (.t 12) (.c (.bool true)) (.t 17)) 0
  .nil)))))))))) false)
 (.cond (.t 18)
 (.seq (.region (Nodes.flat none (.op (some 19) (.build [(.int .i64 0), (.int .i64 0)] []) 0
  (.op none (.store 2 (.t 4) (.t 19)) 0
  .nil))) false)
 .ret)
 .skip))
 (.seq (.region (Nodes.flat none (.op (some 20) (.fieldAddr 1 (.t 2)) 0
  (.op (some 21) (.load none (.t 20)) 0
  (.op (some 22) (.move (.t 1)) 0
  (.op (some 23) (.idxAddr 2 (.t 21) (.t 22)) 0
  (.op (some 24) (.load (some 2) (.t 23)) 0
  (.op (some 25) (.call 50 [(.t 24)]) 0
  (.op none (.store 2 (.t 4) (.t 25)) 0
  .nil)))))))) false)
 .ret))),
 [.cell (some 2) 4]⟩
theorem b23 : fnOf Go.Proofs.Try.prog (owOf []) 23 = some c23 := by kernel_rfl

/-- bywash/bywashref04.LeqFlat -/
def c24 : RFn := ⟨(.seq (.region (Nodes.flat none (.op (some 2) (.box (.t 0)) 0
  (.op (some 3) (.box (.t 1)) 0
  (.op (some 4) (.move (.c (.bool false))) 0
  .nil)))) false)
 (.seq (.seq (.region (Nodes.flat none (.op (some 6) (.fieldAddr 0 (.t 2)) 0
  (.op (some 7) (.load none (.t 6)) 0
  (.op (some 8) (.un .not (.t 7)) 0
  (.op (some 9) (.move (.t 8)) 0
  (.grd 9 false
  (.op (some 10) (.fieldAddr 0 (.t 3)) 0
  (.op (some 11) (.load none (.t 10)) 0
  (.op (some 12) (.un .not (.t 11)) 0
  .nil)))
  (.op (some 13) (.pick (.t 9) (.c (.bool true)) (.t 12)) 0
  .nil))))))) false)
 (.cond (.t 13)
 (.seq (.region (Nodes.flat none (.op (some 14) (.fieldAddr 0 (.t 2)) 0
  (.op (some 15) (.load none (.t 14)) 0
  (.op (some 16) (.un .not (.t 15)) 0
  (.op (some 4) (.move (.t 16)) 0
  .nil))))) false)
 .ret)
 .skip))
 (.seq (.seq (.region (Nodes.flat none (.op (some 5) (.move (.c (.int .i64 0))) 0
  .nil)) false)
 (.block 0 (.loop (.seq (.seq (.region (Nodes.flat none (.op (some 17) (.move (.t 5)) 0
  (.op (some 18) (.fieldAddr 1 (.t 2)) 0
  (.op (some 19) (.load none (.t 18)) 0
  (.op (some 20) (.len false (.t 19)) 0
  (.op (some 21) (.fieldAddr 1 (.t 3)) 0
  (.op (some 22) (.load none (.t 21)) 0
  (.op (some 23) (.len false (.t 22)) 0
  (.op (some 24) (.mm true (.t 20) [(.t 23)]) 0
  (.op (some 25) (.bin .lss (.t 17) (.t 24)) 0
  .nil)))))))))) false)
 (.cond (.t 25)
 .skip
 (.exit 0)))
 (.seq (.block 1 (.seq (.region (Nodes.flat none (.op (some 28) (.load (some 2) (.t 2)) 0
  (.op (some 29) (.move (.t 5)) 0
  (.op (some 30) (.call 23 [(.t 28), (.t 29)]) 3
  (.op (some 31) (.load (some 2) (.t 3)) 0
  (.op (some 32) (.move (.t 5)) 0
  (.op (some 33) (.call 23 [(.t 31), (.t 32)]) 31
  (.op (some 34) (.call 51 [(.t 30), (.t 33)]) 63
  (.op (some 35) (.un .not (.t 34)) 127
  .nil))))))))) true)
 (.cond (.t 35)
 (.seq (.region (Nodes.flat none (.op (some 4) (.move (.c (.bool false))) 0
  .nil)) false)
 .ret)
 .skip)))
 (.region (Nodes.flat none (.op (some 26) (.move (.t 5)) 0
  (.op (some 27) (.bin .add (.t 26) (.c (.int .i64 1))) 0
  (.op (some 5) (.move (.t 27)) 0
  .nil)))) false))))))
 (.seq (.region (Nodes.flat none (.op (some 4) (.move (.c (.bool true))) 0
  .nil)) false)
 .ret)))),
 [.tmp 4]⟩
theorem b24 : fnOf Go.Proofs.Try.prog (owOf []) 24 = some c24 := by kernel_rfl

/-- bywash/bywashref04.JoinFlat -/
def c25 : RFn := ⟨(.seq (.region (Nodes.flat none (.op (some 2) (.box (.t 0)) 0
  (.op (some 3) (.box (.t 1)) 0
  (.op (some 4) (.alloc (.agg [(.bool false), (.lit [])])) 0
  .nil)))) false)
 (.seq (.seq (.region (Nodes.flat none (.op (some 7) (.fieldAddr 0 (.t 2)) 0
  (.op (some 8) (.load none (.t 7)) 0
  (.op (some 9) (.un .not (.t 8)) 0
  .nil)))) false)
 (.cond (.t 9)
 (.seq (.region (Nodes.flat none (.op (some 10) (.load (some 2) (.t 3)) 0
  (.op (some 11) (.call 52 [(.t 10)]) 0
  (.op none (.store 2 (.t 4) (.t 11)) 0
  .nil)))) false)
 .ret)
 .skip))
 (.seq (.seq (.region (Nodes.flat none (.op (some 12) (.fieldAddr 0 (.t 3)) 0
  (.op (some 13) (.load none (.t 12)) 0
  (.op (some 14) (.un .not (.t 13)) 0
  .nil)))) false)
 (.cond (.t 14)
 (.seq (.region (Nodes.flat none (.op (some 15) (.load (some 2) (.t 2)) 0
  (.op (some 16) (.call 52 [(.t 15)]) 0
  (.op none (.store 2 (.t 4) (.t 16)) 0
  .nil)))) false)
 .ret)
 .skip))
 (.seq (.region (Nodes.flat none (.op (some 17) (.build [(.bool false), (.lit [])] [(0, 1, (.c (.bool true)))]) 0
  (.op (some 5) (.alloc (.agg [(.bool false), (.lit [])])) 0
  (.op none (.store 2 (.t 5) (.t 17)) 0
  .nil)))) false)
 (.seq (.seq (.region (Nodes.flat none (.op (some 6) (.move (.c (.int .i64 0))) 0
  .nil)) false)
 (.block 0 (.loop (.seq (.seq (.region (Nodes.flat none (.op (some 18) (.move (.t 6)) 0
  (.op (some 19) (.fieldAddr 1 (.t 2)) 0
  (.op (some 20) (.load none (.t 19)) 0
  (.op (some 21) (.len false (.t 20)) 0
  (.op (some 22) (.fieldAddr 1 (.t 3)) 0
  (.op (some 23) (.load none (.t 22)) 0
  (.op (some 24) (.len false (.t 23)) 0
  (.op (some 25) (.mm true (.t 21) [(.t 24)]) 0
  (.op (some 26) (.bin .lss (.t 18) (.t 25)) 0
  .nil)))))))))) false)
 (.cond (.t 26)
 .skip
 (.exit 0)))
 (.seq (.block 1 (.region (Nodes.flat none (.op (some 29) (.fieldAddr 1 (.t 5)) 0
  (.op (some 30) (.load none (.t 29)) 1
  (.op (some 31) (.load (some 2) (.t 2)) 0
  (.op (some 32) (.move (.t 6)) 0
  (.op (some 33) (.call 23 [(.t 31), (.t 32)]) 12
  (.op (some 34) (.load (some 2) (.t 3)) 0
  (.op (some 35) (.move (.t 6)) 0
  (.op (some 36) (.call 23 [(.t 34), (.t 35)]) 124
  (.op (some 37) (.call 53 [(.t 33), (.t 36)]) 252
  (.op (some 38) (.bslice false 2 1 (.agg [(.int .i64 0), (.int .i64 0)]) [(0, (.t 37))]) 508
  (.op (some 39) (.append 2 (.agg [(.int .i64 0), (.int .i64 0)]) (.t 30) (.t 38)) 1023
  (.op (some 40) (.fieldAddr 1 (.t 5)) 2047
  (.op none (.store 1 (.t 40) (.t 39)) 4095
  .nil)))))))))))))) true))
 (.region (Nodes.flat none (.op (some 27) (.move (.t 6)) 0
  (.op (some 28) (.bin .add (.t 27) (.c (.int .i64 1))) 0
  (.op (some 6) (.move (.t 28)) 0
  .nil)))) false))))))
 (.seq (.region (Nodes.flat none (.op (some 41) (.load (some 2) (.t 5)) 0
  (.op none (.store 2 (.t 4) (.t 41)) 0
  .nil))) false)
 .ret)))))),
 [.cell (some 2) 4]⟩
theorem b25 : fnOf Go.Proofs.Try.prog (owOf [(9, 9)]) 25 = some c25 := by kernel_rfl

/-- bywash/bywashref04.SetFlat -/
def c26 : RFn := ⟨(.seq (.region (Nodes.flat none (.op (some 3) (.box (.t 0)) 0
  (.op (some 5) (.box (.t 2)) 0
  (.op (some 6) (.alloc (.agg [(.bool false), (.lit [])])) 0
  .nil)))) false)
 (.seq (.region (Nodes.flat none (.op (some 8) (.load (some 2) (.t 3)) 0
  (.op (some 9) (.call 52 [(.t 8)]) 0
  (.op (some 7) (.alloc (.agg [(.bool false), (.lit [])])) 0
  (.op none (.store 2 (.t 7) (.t 9)) 0
  .nil))))) false)
 (.seq (.seq (.region (Nodes.flat none (.op (some 10) (.move (.t 1)) 0
  (.op (some 11) (.bin .geq (.t 10) (.c (.int .i64 0))) 0
  (.op (some 12) (.move (.t 11)) 0
  (.grd 12 true
  (.op (some 13) (.move (.t 1)) 0
  (.op (some 14) (.fieldAddr 1 (.t 7)) 0
  (.op (some 15) (.load none (.t 14)) 0
  (.op (some 16) (.len false (.t 15)) 0
  (.op (some 17) (.bin .lss (.t 13) (.t 16)) 0
  .nil)))))
  (.op (some 18) (.pick (.t 12) (.t 17) (.c (.bool false))) 0
  .nil)))))) false)
 (.cond (.t 18)
 (.region (Nodes.flat none (.op (some 19) (.fieldAddr 1 (.t 7)) 0
  (.op (some 20) (.load none (.t 19)) 1
  (.op (some 21) (.move (.t 1)) 0
  (.op (some 22) (.load (some 2) (.t 5)) 0
  (.op (some 23) (.call 50 [(.t 22)]) 8
  (.op (some 24) (.idxAddr 2 (.t 20) (.t 21)) 31
  (.op none (.store 2 (.t 24) (.t 23)) 63
  .nil)))))))) true)
 .skip))
 (.seq (.region (Nodes.flat none (.op (some 25) (.load (some 2) (.t 7)) 0
  (.op none (.store 2 (.t 6) (.t 25)) 0
  .nil))) false)
 .ret)))),
 [.cell (some 2) 6]⟩
theorem b26 : fnOf Go.Proofs.Try.prog (owOf []) 26 = some c26 := by kernel_rfl

/-- bywash/bywashref04.Flats -/
def c28 : RFn := ⟨(.seq (.region (Nodes.flat none (.op (some 3) (.box (.t 1)) 0
  (.op (some 4) (.alloc (.agg [(.bool false), (.lit [])])) 0
  .nil))) false)
 (.seq (.region (Nodes.flat none (.op (some 7) (.build [(.bool false), (.lit [])] [(0, 1, (.c (.bool true)))]) 0
  (.op (some 5) (.alloc (.agg [(.bool false), (.lit [])])) 0
  (.op none (.store 2 (.t 5) (.t 7)) 0
  .nil)))) false)
 (.seq (.seq (.region (Nodes.flat none (.op (some 6) (.move (.c (.int .i64 0))) 0
  .nil)) false)
 (.block 0 (.loop (.seq (.seq (.region (Nodes.flat none (.op (some 8) (.move (.t 6)) 0
  (.op (some 9) (.move (.t 0)) 0
  (.op (some 10) (.mm false (.t 9) [(.c (.int .i64 64))]) 0
  (.op (some 11) (.bin .lss (.t 8) (.t 10)) 0
  .nil))))) false)
 (.cond (.t 11)
 .skip
 (.exit 0)))
 (.seq (.block 1 (.region (Nodes.flat none (.op (some 14) (.fieldAddr 1 (.t 5)) 0
  (.op (some 15) (.load none (.t 14)) 1
  (.op (some 16) (.load (some 2) (.t 3)) 0
  (.op (some 17) (.call 50 [(.t 16)]) 4
  (.op (some 18) (.bslice false 2 1 (.agg [(.int .i64 0), (.int .i64 0)]) [(0, (.t 17))]) 12
  (.op (some 19) (.append 2 (.agg [(.int .i64 0), (.int .i64 0)]) (.t 15) (.t 18)) 31
  (.op (some 20) (.fieldAddr 1 (.t 5)) 63
  (.op none (.store 1 (.t 20) (.t 19)) 127
  .nil))))))))) true))
 (.region (Nodes.flat none (.op (some 12) (.move (.t 6)) 0
  (.op (some 13) (.bin .add (.t 12) (.c (.int .i64 1))) 0
  (.op (some 6) (.move (.t 13)) 0
  .nil)))) false))))))
 (.seq (.region (Nodes.flat none (.op (some 21) (.load (some 2) (.t 5)) 0
  (.op none (.store 2 (.t 4) (.t 21)) 0
  .nil))) false)
 .ret)))),
 [.cell (some 2) 4]⟩
theorem b28 : fnOf Go.Proofs.Try.prog (owOf [(5, 4)]) 28 = some c28 := by kernel_rfl

/-- bywash/bywashref04.val -/
def c50 : RFn := ⟨(.seq (.region (Nodes.flat none (.op (some 1) (.box (.t 0)) 0
  (.op (some 2) (.alloc (.agg [(.int .i64 0), (.int .i64 0)])) 0
  .nil))) false)
 (.seq (.region (Nodes.flat none (.op (some 3) (.load (some 2) (.t 1)) 0
  (.op (some 4) (.build [(.int .i64 0), (.int .i64 0)] []) 0
  (.op (some 5) (.call 53 [(.t 3), (.t 4)]) 0
  (.op none (.store 2 (.t 2) (.t 5)) 0
  .nil))))) false)
 .ret)),
 [.cell (some 2) 2]⟩
theorem b50 : fnOf Go.Proofs.Try.prog (owOf []) 50 = some c50 := by kernel_rfl

/-- bywash/bywashref04.ownFlat -/
def c52 : RFn := ⟨(.seq (.region (Nodes.flat none (.op (some 1) (.box (.t 0)) 0
  (.op (some 2) (.alloc (.agg [(.bool false), (.lit [])])) 0
  .nil))) false)
 (.seq (.seq (.region (Nodes.flat none (.op (some 5) (.fieldAddr 0 (.t 1)) 0
  (.op (some 6) (.load none (.t 5)) 0
  (.op (some 7) (.un .not (.t 6)) 0
  .nil)))) false)
 (.cond (.t 7)
 (.seq (.region (Nodes.flat none (.op (some 8) (.build [(.bool false), (.lit [])] []) 0
  (.op none (.store 2 (.t 2) (.t 8)) 0
  .nil))) false)
 .ret)
 .skip))
 (.seq (.region (Nodes.flat none (.op (some 9) (.build [(.bool false), (.lit [])] [(0, 1, (.c (.bool true)))]) 0
  (.op (some 3) (.alloc (.agg [(.bool false), (.lit [])])) 0
  (.op none (.store 2 (.t 3) (.t 9)) 0
  .nil)))) false)
 (.seq (.seq (.region (Nodes.flat none (.op (some 4) (.move (.c (.int .i64 0))) 0
  .nil)) false)
 (.block 0 (.loop (.seq (.seq (.region (Nodes.flat none (.op (some 10) (.move (.t 4)) 0
  (.op (some 11) (.fieldAddr 1 (.t 1)) 0
  (.op (some 12) (.load none (.t 11)) 0
  (.op (some 13) (.len false (.t 12)) 0
  (.op (some 14) (.bin .lss (.t 10) (.t 13)) 0
  .nil)))))) false)
 (.cond (.t 14)
 .skip
 (.exit 0)))
 (.seq (.block 1 (.region (Nodes.flat none (.op (some 17) (.fieldAddr 1 (.t 3)) 0
  (.op (some 18) (.load none (.t 17)) 1
  (.op (some 19) (.load (some 2) (.t 1)) 0
  (.op (some 20) (.move (.t 4)) 0
  (.op (some 21) (.call 23 [(.t 19), (.t 20)]) 12
  (.op (some 22) (.bslice false 2 1 (.agg [(.int .i64 0), (.int .i64 0)]) [(0, (.t 21))]) 28
  (.op (some 23) (.append 2 (.agg [(.int .i64 0), (.int .i64 0)]) (.t 18) (.t 22)) 63
  (.op (some 24) (.fieldAddr 1 (.t 3)) 127
  (.op none (.store 1 (.t 24) (.t 23)) 255
  .nil)))))))))) true))
 (.region (Nodes.flat none (.op (some 15) (.move (.t 4)) 0
  (.op (some 16) (.bin .add (.t 15) (.c (.int .i64 1))) 0
  (.op (some 4) (.move (.t 16)) 0
  .nil)))) false))))))
 (.seq (.region (Nodes.flat none (.op (some 25) (.load (some 2) (.t 3)) 0
  (.op none (.store 2 (.t 2) (.t 25)) 0
  .nil))) false)
 .ret))))),
 [.cell (some 2) 2]⟩
theorem b52 : fnOf Go.Proofs.Try.prog (owOf [(7, 5)]) 52 = some c52 := by kernel_rfl

end Go.Vm
