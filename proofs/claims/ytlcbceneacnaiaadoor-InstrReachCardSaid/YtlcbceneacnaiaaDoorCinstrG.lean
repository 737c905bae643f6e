/- Laid. -/
import Derived.Test.YtlcbceneacnaiaaDoorVmThree
import Derived.KernelRfl
import Derived.Test.YtlcbceneacnaiaaDoorProg
/- Code. -/
set_option maxRecDepth 100000
set_option linter.unusedSimpArgs false
set_option linter.unusedVariables false
namespace Go.Vm
open Go

/-- bywash/bywashlaw05.awake -/
def c7 : RFn := ⟨(.seq (.region (Nodes.flat none (.op (some 0) (.move (.c (.bool false))) 0
  .nil)) false)
 (.seq (.region (Nodes.flat none (.op (some 2) (.build [(.int .i64 0), (.int .i64 0), (.int .i64 0), (.int .i64 0), (.int .i64 0), (.int .i64 0), (.int .i64 0), (.int .i64 0), (.int .i64 0), (.int .i64 0), (.int .i64 0)] [(1, 1, (.c (.int .i64 3))), (3, 1, (.c (.int .i64 1))), (4, 1, (.c (.int .i64 1)))]) 0
  (.op (some 1) (.alloc (.agg [(.int .i64 0), (.int .i64 0), (.int .i64 0), (.int .i64 0), (.int .i64 0), (.int .i64 0), (.int .i64 0), (.int .i64 0), (.int .i64 0), (.int .i64 0), (.int .i64 0)])) 0
  (.op none (.store 11 (.t 1) (.t 2)) 0
  .nil)))) false)
 (.seq (.region (Nodes.flat none (.op (some 3) (.load (some 11) (.t 1)) 0
  (.op (some 4) (.call 16 [(.t 3)]) 0
  (.op (some 5) (.move (.t 4)) 0
  (.grd 5 true
  (.op (some 6) (.load (some 11) (.t 1)) 0
  (.op (some 7) (.call 13 [(.t 6)]) 0
  (.op (some 8) (.bin .eql (.t 7) (.c (.int .i64 0))) 0
  .nil)))
  (.op (some 9) (.pick (.t 5) (.t 8) (.c (.bool false))) 0
  (.op (some 10) (.move (.t 9)) 0
  (.grd 10 true
  (.op (some 11) (.load (some 11) (.t 1)) 0
  (.op (some 12) (.call 11 [(.t 11)]) 0
  (.op (some 13) (.bslice false 1 1 (.int .i64 0) [(0, (.c (.int .i64 1)))]) 0
  (.op (some 14) (.call 19 [(.t 12), (.t 13)]) 0
  .nil))))
  (.op (some 15) (.pick (.t 10) (.t 14) (.c (.bool false))) 0
  (.op (some 16) (.move (.t 15)) 0
  (.grd 16 true
  (.op (some 17) (.call 23 [(.c (.int .i64 3))]) 0
  (.op (some 18) (.bin .eql (.t 17) (.c (.str ⟨#[97, 100, 100]⟩))) 0
  .nil))
  (.op (some 19) (.pick (.t 16) (.t 18) (.c (.bool false))) 0
  (.op (some 0) (.move (.t 19)) 0
  .nil))))))))))))) false)
 .ret))),
 [.tmp 0]⟩
theorem b7 : fnOf Go.Proofs.Tryd.prog (owOf [(2, 10)]) 7 = some c7 := by kernel_rfl

/-- bywash/bywashlaw05.ours -/
def c8 : RFn := ⟨(.seq (.region (Nodes.flat none (.op (some 1) (.box (.t 0)) 0
  (.op (some 2) (.alloc (.agg [(.int .i64 0), (.lit [])])) 0
  .nil))) false)
 (.seq (.region (Nodes.flat none (.op (some 3) (.fieldAddr 0 (.t 1)) 0
  (.op (some 4) (.load none (.t 3)) 0
  (.op (some 5) (.fieldAddr 1 (.t 1)) 0
  (.op (some 6) (.load none (.t 5)) 0
  (.op (some 7) (.build [(.int .i64 0), (.lit [])] [(0, 1, (.t 4)), (1, 1, (.t 6))]) 0
  (.op none (.store 2 (.t 2) (.t 7)) 0
  .nil))))))) false)
 .ret)),
 [.cell (some 2) 2]⟩
theorem b8 : fnOf Go.Proofs.Tryd.prog (owOf []) 8 = some c8 := by kernel_rfl

/-- bywash/instr.Live -/
def c10 : RFn := ⟨(.seq (.region (Nodes.flat none (.op (some 2) (.box (.t 0)) 0
  (.op (some 3) (.box (.t 1)) 0
  (.op (some 4) (.alloc (.agg [(.int .i64 0), (.lit [])])) 0
  .nil)))) false)
 (.seq (.region (Nodes.flat none (.op (some 5) (.load (some 2) (.t 2)) 0
  (.op (some 6) (.load (some 11) (.t 3)) 0
  (.op (some 7) (.call 13 [(.t 6)]) 2
  (.op (some 8) (.call 31 [(.t 5), (.t 7)]) 7
  (.op none (.store 2 (.t 2) (.t 8)) 15
  .nil)))))) true)
 (.seq (.region (Nodes.flat none (.op (some 9) (.load (some 2) (.t 2)) 0
  (.op (some 10) (.fieldAddr 0 (.t 2)) 0
  (.op (some 11) (.load none (.t 10)) 2
  (.op (some 12) (.load (some 11) (.t 3)) 0
  (.op (some 13) (.call 11 [(.t 12)]) 8
  (.op (some 14) (.call 29 [(.t 11), (.t 13)]) 30
  (.op (some 15) (.call 32 [(.t 9), (.t 14)]) 63
  (.op none (.store 2 (.t 4) (.t 15)) 127
  .nil))))))))) true)
 .ret))),
 [.cell (some 2) 4]⟩
theorem b10 : fnOf Go.Proofs.Tryd.prog (owOf []) 10 = some c10 := by kernel_rfl

/-- bywash/instr.Reach -/
def c15 : RFn := ⟨(.seq (.region (Nodes.flat none (.op (some 3) (.box (.t 0)) 0
  (.op (some 4) (.box (.t 1)) 0
  (.op (some 6) (.alloc (.agg [(.int .i64 0), (.lit [])])) 0
  .nil)))) false)
 (.seq (.region (Nodes.flat none (.op (some 7) (.load (some 2) (.t 3)) 0
  (.op (some 8) (.call 39 [(.c (.int .i64 0))]) 0
  (.op (some 9) (.call 32 [(.t 7), (.t 8)]) 3
  (.op none (.store 2 (.t 3) (.t 9)) 7
  .nil))))) true)
 (.seq (.seq (.region (Nodes.flat none (.op (some 10) (.load (some 11) (.t 4)) 0
  (.op (some 11) (.call 13 [(.t 10)]) 0
  (.op (some 12) (.bin .eql (.t 11) (.c (.int .i64 (-1)))) 0
  .nil)))) false)
 (.cond (.t 12)
 (.seq (.region (Nodes.flat none (.op (some 13) (.load (some 2) (.t 3)) 0
  (.op none (.store 2 (.t 6) (.t 13)) 0
  .nil))) false)
 .ret)
 .skip))
 (.seq (.region (Nodes.flat none (.op (some 14) (.load (some 2) (.t 3)) 0
  (.op (some 15) (.fieldAddr 0 (.t 3)) 0
  (.op (some 16) (.load none (.t 15)) 2
  (.op (some 17) (.move (.t 2)) 0
  (.op (some 18) (.call 29 [(.t 16), (.t 17)]) 14
  (.op (some 19) (.call 41 [(.t 14), (.t 18)]) 31
  (.op (some 20) (.fieldAddr 0 (.t 4)) 0
  (.op (some 21) (.load none (.t 20)) 64
  (.op (some 22) (.call 40 [(.t 19), (.t 21)]) 255
  (.op none (.store 2 (.t 6) (.t 22)) 511
  .nil))))))))))) true)
 .ret)))),
 [.cell (some 2) 6]⟩
theorem b15 : fnOf Go.Proofs.Tryd.prog (owOf []) 15 = some c15 := by kernel_rfl

/-- bywash/bywashref01.Ints -/
def c19 : RFn := ⟨(.seq (.region (Nodes.flat none (.op (some 4) (.move (.c (.bool false))) 0
  .nil)) false)
 (.seq (.seq (.region (Nodes.flat none (.op (some 6) (.move (.t 0)) 0
  (.op (some 7) (.len false (.t 6)) 0
  (.op (some 8) (.move (.t 1)) 0
  (.op (some 9) (.len false (.t 8)) 0
  (.op (some 10) (.bin .neq (.t 7) (.t 9)) 0
  .nil)))))) false)
 (.cond (.t 10)
 (.seq (.region (Nodes.flat none (.op (some 4) (.move (.c (.bool false))) 0
  .nil)) false)
 .ret)
 .skip))
 (.seq (.seq (.region (Nodes.flat none (.op (some 5) (.move (.c (.int .i64 0))) 0
  .nil)) false)
 (.block 0 (.loop (.seq (.seq (.region (Nodes.flat none (.op (some 11) (.move (.t 5)) 0
  (.op (some 12) (.move (.t 0)) 0
  (.op (some 13) (.len false (.t 12)) 0
  (.op (some 14) (.bin .lss (.t 11) (.t 13)) 0
  .nil))))) false)
 (.cond (.t 14)
 .skip
 (.exit 0)))
 (.seq (.block 1 (.seq (.region (Nodes.flat none (.op (some 17) (.move (.t 0)) 0
  (.op (some 18) (.move (.t 5)) 0
  (.op (some 19) (.idxAddr 1 (.t 17) (.t 18)) 3
  (.op (some 20) (.load none (.t 19)) 7
  (.op (some 21) (.move (.t 1)) 0
  (.op (some 22) (.move (.t 5)) 0
  (.op (some 23) (.idxAddr 1 (.t 21) (.t 22)) 48
  (.op (some 24) (.load none (.t 23)) 112
  (.op (some 25) (.bin .neq (.t 20) (.t 24)) 255
  .nil)))))))))) true)
 (.cond (.t 25)
 (.seq (.region (Nodes.flat none (.op (some 4) (.move (.c (.bool false))) 0
  .nil)) false)
 .ret)
 .skip)))
 (.region (Nodes.flat none (.op (some 15) (.move (.t 5)) 0
  (.op (some 16) (.bin .add (.t 15) (.c (.int .i64 1))) 0
  (.op (some 5) (.move (.t 16)) 0
  .nil)))) false))))))
 (.seq (.region (Nodes.flat none (.op (some 4) (.move (.c (.bool true))) 0
  .nil)) false)
 .ret)))),
 [.tmp 4]⟩
theorem b19 : fnOf Go.Proofs.Tryd.prog (owOf []) 19 = some c19 := by kernel_rfl

end Go.Vm
