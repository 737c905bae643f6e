/- Laid. -/
import Derived.Test.YtlcbceneacnaiaaDoorVmThree
import Derived.KernelRfl
import Derived.Test.YtlcbceneacnaiaaDoorProg
/- Code. -/
set_option maxRecDepth 100000
set_option linter.unusedSimpArgs false
set_option linter.unusedVariables false
namespace Go.Vm
open Go

/-- bywash/bits.Sane -/
def c9 : RFn := ⟨(.seq (.region (Nodes.flat none (.op (some 1) (.box (.t 0)) 0
  (.op (some 2) (.move (.c (.bool false))) 0
  .nil))) false)
 (.seq (.seq (.region (Nodes.flat none (.op (some 4) (.fieldAddr 0 (.t 1)) 0
  (.op (some 5) (.load none (.t 4)) 1
  (.op (some 6) (.bin .lss (.t 5) (.c (.int .i64 0))) 3
  (.op (some 7) (.move (.t 6)) 7
  (.grd 7 false
  (.op (some 8) (.fieldAddr 0 (.t 1)) 15
  (.op (some 9) (.load none (.t 8)) 31
  (.op (some 10) (.bin .gtr (.t 9) (.c (.int .i64 1024))) 63
  .nil)))
  (.op (some 11) (.pick (.t 7) (.c (.bool true)) (.t 10)) 127
  (.op (some 12) (.move (.t 11)) 255
  (.grd 12 false
  (.op (some 13) (.fieldAddr 1 (.t 1)) 511
  (.op (some 14) (.load none (.t 13)) 1023
  (.op (some 15) (.len false (.t 14)) 2047
  (.op (some 16) (.fieldAddr 0 (.t 1)) 511
  (.op (some 17) (.load none (.t 16)) 4607
  (.op (some 18) (.call 30 [(.t 17)]) 12799
  (.op (some 19) (.bin .neq (.t 15) (.t 18)) 32767
  .nil)))))))
  (.op (some 20) (.pick (.t 12) (.c (.bool true)) (.t 19)) 65535
  .nil)))))))))) true)
 (.cond (.t 20)
 (.seq (.region (Nodes.flat none (.op (some 2) (.move (.c (.bool false))) 0
  .nil)) false)
 .ret)
 .skip))
 (.seq (.region (Nodes.flat none (.op (some 21) (.fieldAddr 0 (.t 1)) 0
  (.op (some 22) (.load none (.t 21)) 0
  (.op (some 23) (.bin .rem (.t 22) (.c (.int .i64 64))) 0
  (.op (some 3) (.move (.t 23)) 0
  .nil))))) false)
 (.seq (.region (Nodes.flat none (.op (some 24) (.move (.t 3)) 0
  (.op (some 25) (.bin .eql (.t 24) (.c (.int .i64 0))) 0
  (.op (some 26) (.move (.t 25)) 0
  (.grd 26 false
  (.op (some 27) (.fieldAddr 1 (.t 1)) 0
  (.op (some 28) (.load none (.t 27)) 0
  (.op (some 29) (.fieldAddr 1 (.t 1)) 0
  (.op (some 30) (.load none (.t 29)) 0
  (.op (some 31) (.len false (.t 30)) 0
  (.op (some 32) (.bin .sub (.t 31) (.c (.int .i64 1))) 0
  (.op (some 33) (.idxAddr 1 (.t 28) (.t 32)) 0
  (.op (some 34) (.load none (.t 33)) 0
  (.op (some 35) (.move (.t 3)) 0
  (.op (some 36) (.conv .u64 (.t 35)) 0
  (.op (some 37) (.bin .shr (.t 34) (.t 36)) 0
  (.op (some 38) (.bin .eql (.t 37) (.c (.int .u64 0))) 0
  .nil))))))))))))
  (.op (some 39) (.pick (.t 26) (.c (.bool true)) (.t 38)) 0
  (.op (some 2) (.move (.t 39)) 0
  .nil))))))) false)
 .ret)))),
 [.tmp 2]⟩
theorem b9 : fnOf Go.Proofs.Tryd.prog (owOf []) 9 = some c9 := by kernel_rfl

/-- bywash/bits.Has -/
def c12 : RFn := ⟨(.seq (.region (Nodes.flat none (.op (some 2) (.box (.t 0)) 0
  (.op (some 4) (.move (.c (.bool false))) 0
  .nil))) false)
 (.seq (.seq (.region (Nodes.flat none (.op (some 7) (.load (some 2) (.t 2)) 0
  (.op (some 8) (.call 9 [(.t 7)]) 0
  (.op (some 9) (.un .not (.t 8)) 0
  (.op (some 10) (.move (.t 9)) 0
  (.grd 10 false
  (.op (some 11) (.load (some 2) (.t 2)) 0
  (.op (some 12) (.move (.t 1)) 0
  (.op (some 13) (.call 35 [(.t 11), (.t 12)]) 0
  (.op (some 14) (.un .not (.t 13)) 0
  .nil))))
  (.op (some 15) (.pick (.t 10) (.c (.bool true)) (.t 14)) 0
  .nil))))))) false)
 (.cond (.t 15)
 (.seq (.region (Nodes.flat none (.op (some 4) (.move (.c (.bool false))) 0
  .nil)) false)
 .ret)
 .skip))
 (.seq (.region (Nodes.flat none (.op (some 17) (.move (.t 1)) 0
  (.op (some 18) (.call 36 [(.t 17)]) 0
  (.op (some 16) (.move (.t 18)) 0
  (.op (some 19) (.extract 0 (.t 16)) 0
  (.op (some 20) (.extract 1 (.t 16)) 0
  (.op (some 5) (.move (.t 19)) 0
  (.op (some 6) (.move (.t 20)) 0
  .nil)))))))) false)
 (.seq (.region (Nodes.flat none (.op (some 21) (.fieldAddr 1 (.t 2)) 0
  (.op (some 22) (.load none (.t 21)) 0
  (.op (some 23) (.move (.t 5)) 0
  (.op (some 24) (.idxAddr 1 (.t 22) (.t 23)) 0
  (.op (some 25) (.load none (.t 24)) 0
  (.op (some 26) (.move (.t 6)) 0
  (.op (some 27) (.bin .and (.t 25) (.t 26)) 0
  (.op (some 28) (.bin .neq (.t 27) (.c (.int .u64 0))) 0
  (.op (some 4) (.move (.t 28)) 0
  .nil)))))))))) false)
 .ret)))),
 [.tmp 4]⟩
theorem b12 : fnOf Go.Proofs.Tryd.prog (owOf []) 12 = some c12 := by kernel_rfl

/-- bywash/bits.words -/
def c30 : RFn := ⟨(.seq (.region (Nodes.flat none (.op (some 2) (.move (.c (.int .i64 0))) 0
  .nil)) false)
 (.seq (.region (Nodes.flat none (.op (some 3) (.move (.t 0)) 0
  (.op (some 4) (.bin .add (.t 3) (.c (.int .i64 64))) 0
  (.op (some 5) (.bin .sub (.t 4) (.c (.int .i64 1))) 0
  (.op (some 6) (.bin .quo (.t 5) (.c (.int .i64 64))) 0
  (.op (some 2) (.move (.t 6)) 0
  .nil)))))) false)
 .ret)),
 [.tmp 2]⟩
theorem b30 : fnOf Go.Proofs.Tryd.prog (owOf []) 30 = some c30 := by kernel_rfl

/-- bywash/bits.Without -/
def c31 : RFn := ⟨(.seq (.region (Nodes.flat none (.op (some 2) (.box (.t 0)) 0
  (.op (some 4) (.alloc (.agg [(.int .i64 0), (.lit [])])) 0
  .nil))) false)
 (.seq (.region (Nodes.flat none (.op (some 8) (.load (some 2) (.t 2)) 0
  (.op (some 9) (.load (some 2) (.t 2)) 0
  (.op (some 10) (.call 37 [(.t 9)]) 2
  (.op (some 11) (.field 0 none (.t 10)) 6
  (.op (some 12) (.call 57 [(.t 8), (.t 11)]) 15
  (.op (some 5) (.alloc (.agg [(.int .i64 0), (.lit [])])) 0
  (.op none (.store 2 (.t 5) (.t 12)) 63
  .nil)))))))) true)
 (.seq (.seq (.region (Nodes.flat none (.op (some 13) (.load (some 2) (.t 5)) 0
  (.op (some 14) (.move (.t 1)) 0
  (.op (some 15) (.call 35 [(.t 13), (.t 14)]) 0
  .nil)))) false)
 (.cond (.t 15)
 (.seq (.region (Nodes.flat none (.op (some 17) (.move (.t 1)) 0
  (.op (some 18) (.call 36 [(.t 17)]) 0
  (.op (some 16) (.move (.t 18)) 0
  (.op (some 19) (.extract 0 (.t 16)) 0
  (.op (some 20) (.extract 1 (.t 16)) 0
  (.op (some 6) (.move (.t 19)) 0
  (.op (some 7) (.move (.t 20)) 0
  .nil)))))))) false)
 (.region (Nodes.flat none (.op (some 21) (.fieldAddr 1 (.t 5)) 0
  (.op (some 22) (.load none (.t 21)) 0
  (.op (some 23) (.move (.t 6)) 0
  (.op (some 24) (.idxAddr 1 (.t 22) (.t 23)) 0
  (.op (some 25) (.load none (.t 24)) 0
  (.op (some 26) (.move (.t 7)) 0
  (.op (some 27) (.bin .andNot (.t 25) (.t 26)) 0
  (.op (some 28) (.idxAddr 1 (.t 22) (.t 23)) 0
  (.op none (.store 1 (.t 28) (.t 27)) 0
  .nil)))))))))) false))
 .skip))
 (.seq (.region (Nodes.flat none (.op (some 29) (.load (some 2) (.t 5)) 0
  (.op none (.store 2 (.t 4) (.t 29)) 0
  .nil))) false)
 .ret)))),
 [.cell (some 2) 4]⟩
theorem b31 : fnOf Go.Proofs.Tryd.prog (owOf []) 31 = some c31 := by kernel_rfl

/-- bywash/bits.is -/
def c35 : RFn := ⟨(.seq (.region (Nodes.flat none (.op (some 2) (.box (.t 0)) 0
  (.op (some 4) (.move (.c (.bool false))) 0
  .nil))) false)
 (.seq (.region (Nodes.flat none (.op (some 5) (.move (.t 1)) 0
  (.op (some 6) (.bin .geq (.t 5) (.c (.int .i64 0))) 0
  (.op (some 7) (.move (.t 6)) 0
  (.grd 7 true
  (.op (some 8) (.move (.t 1)) 0
  (.op (some 9) (.fieldAddr 0 (.t 2)) 0
  (.op (some 10) (.load none (.t 9)) 0
  (.op (some 11) (.bin .lss (.t 8) (.t 10)) 0
  .nil))))
  (.op (some 12) (.pick (.t 7) (.t 11) (.c (.bool false))) 0
  (.op (some 4) (.move (.t 12)) 0
  .nil))))))) false)
 .ret)),
 [.tmp 4]⟩
theorem b35 : fnOf Go.Proofs.Tryd.prog (owOf []) 35 = some c35 := by kernel_rfl

/-- bywash/bits.at -/
def c36 : RFn := ⟨(.seq (.region (Nodes.flat none (.op (some 2) (.move (.c (.int .i64 0))) 0
  (.op (some 3) (.move (.c (.int .u64 0))) 0
  .nil))) false)
 (.seq (.region (Nodes.flat none (.op (some 4) (.move (.t 0)) 0
  (.op (some 5) (.bin .quo (.t 4) (.c (.int .i64 64))) 0
  (.op (some 6) (.move (.t 0)) 0
  (.op (some 7) (.bin .rem (.t 6) (.c (.int .i64 64))) 0
  (.op (some 8) (.conv .u64 (.t 7)) 0
  (.op (some 9) (.bin .shl (.c (.int .u64 1)) (.t 8)) 0
  (.op (some 2) (.move (.t 5)) 0
  (.op (some 3) (.move (.t 9)) 0
  .nil))))))))) false)
 .ret)),
 [.tmp 2, .tmp 3]⟩
theorem b36 : fnOf Go.Proofs.Tryd.prog (owOf []) 36 = some c36 := by kernel_rfl

/-- bywash/bits.sane -/
def c37 : RFn := ⟨(.seq (.region (Nodes.flat none (.op (some 1) (.box (.t 0)) 0
  (.op (some 2) (.alloc (.agg [(.int .i64 0), (.lit [])])) 0
  .nil))) false)
 (.seq (.seq (.region (Nodes.flat none (.op (some 3) (.load (some 2) (.t 1)) 0
  (.op (some 4) (.call 9 [(.t 3)]) 0
  (.op (some 5) (.un .not (.t 4)) 0
  .nil)))) false)
 (.cond (.t 5)
 (.seq (.region (Nodes.flat none (.op (some 6) (.call 39 [(.c (.int .i64 0))]) 0
  (.op none (.store 2 (.t 2) (.t 6)) 0
  .nil))) false)
 .ret)
 .skip))
 (.seq (.region (Nodes.flat none (.op (some 7) (.load (some 2) (.t 1)) 0
  (.op none (.store 2 (.t 2) (.t 7)) 0
  .nil))) false)
 .ret))),
 [.cell (some 2) 2]⟩
theorem b37 : fnOf Go.Proofs.Tryd.prog (owOf []) 37 = some c37 := by kernel_rfl

/-- bywash/bits.New -/
def c39 : RFn := ⟨(.seq (.region (Nodes.flat none (.op (some 2) (.alloc (.agg [(.int .i64 0), (.lit [])])) 0
  .nil)) false)
 (.seq (.region (Nodes.flat none (.op (some 3) (.move (.t 0)) 0
  (.op (some 4) (.mm false (.t 3) [(.c (.int .i64 1024))]) 0
  (.op (some 5) (.mm true (.c (.int .i64 0)) [(.t 4)]) 0
  (.op (some 0) (.move (.t 5)) 0
  .nil))))) false)
 (.seq (.region (Nodes.flat none (.op (some 6) (.move (.t 0)) 0
  (.op (some 7) (.move (.t 0)) 0
  (.op (some 8) (.call 30 [(.t 7)]) 0
  (.op (some 9) (.mkslice 1 (.int .u64 0) (.t 8)) 0
  (.op (some 10) (.build [(.int .i64 0), (.lit [])] [(0, 1, (.t 6)), (1, 1, (.t 9))]) 0
  (.op none (.store 2 (.t 2) (.t 10)) 0
  .nil))))))) false)
 .ret))),
 [.cell (some 2) 2]⟩
theorem b39 : fnOf Go.Proofs.Tryd.prog (owOf []) 39 = some c39 := by kernel_rfl

/-- bywash/bits.With -/
def c40 : RFn := ⟨(.seq (.region (Nodes.flat none (.op (some 2) (.box (.t 0)) 0
  (.op (some 4) (.alloc (.agg [(.int .i64 0), (.lit [])])) 0
  .nil))) false)
 (.seq (.region (Nodes.flat none (.op (some 8) (.load (some 2) (.t 2)) 0
  (.op (some 9) (.load (some 2) (.t 2)) 0
  (.op (some 10) (.call 37 [(.t 9)]) 2
  (.op (some 11) (.field 0 none (.t 10)) 6
  (.op (some 12) (.call 57 [(.t 8), (.t 11)]) 15
  (.op (some 5) (.alloc (.agg [(.int .i64 0), (.lit [])])) 0
  (.op none (.store 2 (.t 5) (.t 12)) 63
  .nil)))))))) true)
 (.seq (.seq (.region (Nodes.flat none (.op (some 13) (.load (some 2) (.t 5)) 0
  (.op (some 14) (.move (.t 1)) 0
  (.op (some 15) (.call 35 [(.t 13), (.t 14)]) 0
  .nil)))) false)
 (.cond (.t 15)
 (.seq (.region (Nodes.flat none (.op (some 17) (.move (.t 1)) 0
  (.op (some 18) (.call 36 [(.t 17)]) 0
  (.op (some 16) (.move (.t 18)) 0
  (.op (some 19) (.extract 0 (.t 16)) 0
  (.op (some 20) (.extract 1 (.t 16)) 0
  (.op (some 6) (.move (.t 19)) 0
  (.op (some 7) (.move (.t 20)) 0
  .nil)))))))) false)
 (.region (Nodes.flat none (.op (some 21) (.fieldAddr 1 (.t 5)) 0
  (.op (some 22) (.load none (.t 21)) 0
  (.op (some 23) (.move (.t 6)) 0
  (.op (some 24) (.idxAddr 1 (.t 22) (.t 23)) 0
  (.op (some 25) (.load none (.t 24)) 0
  (.op (some 26) (.move (.t 7)) 0
  (.op (some 27) (.bin .or (.t 25) (.t 26)) 0
  (.op (some 28) (.idxAddr 1 (.t 22) (.t 23)) 0
  (.op none (.store 1 (.t 28) (.t 27)) 0
  .nil)))))))))) false))
 .skip))
 (.seq (.region (Nodes.flat none (.op (some 29) (.load (some 2) (.t 5)) 0
  (.op none (.store 2 (.t 4) (.t 29)) 0
  .nil))) false)
 .ret)))),
 [.cell (some 2) 4]⟩
theorem b40 : fnOf Go.Proofs.Tryd.prog (owOf []) 40 = some c40 := by kernel_rfl

/-- bywash/bits.own -/
def c57 : RFn := ⟨(.seq (.region (Nodes.flat none (.op (some 2) (.box (.t 0)) 0
  (.op (some 4) (.alloc (.agg [(.int .i64 0), (.lit [])])) 0
  .nil))) false)
 (.seq (.region (Nodes.flat none (.op (some 6) (.move (.t 1)) 0
  (.op (some 7) (.call 39 [(.t 6)]) 0
  (.op (some 5) (.alloc (.agg [(.int .i64 0), (.lit [])])) 0
  (.op none (.store 2 (.t 5) (.t 7)) 0
  .nil))))) false)
 (.seq (.region (Nodes.flat none (.op (some 8) (.fieldAddr 1 (.t 5)) 0
  (.op (some 9) (.load none (.t 8)) 1
  (.op (some 10) (.load (some 2) (.t 2)) 0
  (.op (some 11) (.call 37 [(.t 10)]) 4
  (.op (some 12) (.field 1 none (.t 11)) 12
  (.op (some 13) (.copy 1 (.t 9) (.t 12)) 31
  .nil))))))) true)
 (.seq (.region (Nodes.flat none (.op (some 14) (.load (some 2) (.t 5)) 0
  (.op none (.store 2 (.t 4) (.t 14)) 0
  .nil))) false)
 .ret)))),
 [.cell (some 2) 4]⟩
theorem b57 : fnOf Go.Proofs.Tryd.prog (owOf []) 57 = some c57 := by kernel_rfl

end Go.Vm
