/- Laid. -/
import Derived.Test.YtlcbceneacnaiaaVmThree
import Derived.KernelRfl
import Derived.Test.YtlcbceneacnaiaaProg
/- Code. -/
set_option maxRecDepth 100000
set_option linter.unusedSimpArgs false
set_option linter.unusedVariables false
namespace Go.Vm
open Go

/-- bywash/flat.Join -/
def c17 : RFn := ⟨(.seq (.region (Nodes.flat none (.op (some 2) (.box (.t 0)) 0
  (.op (some 3) (.box (.t 1)) 0
  (.op (some 4) (.alloc (.agg [(.int .i64 0), (.int .i64 0)])) 0
  .nil)))) false)
 (.seq (.region (Nodes.flat none (.op (some 5) (.load (some 2) (.t 2)) 0
  (.op (some 6) (.call 46 [(.t 5)]) 1
  (.op (some 7) (.load (some 2) (.t 3)) 0
  (.op (some 8) (.call 46 [(.t 7)]) 7
  (.op none (.store 2 (.t 2) (.t 6)) 15
  (.op none (.store 2 (.t 3) (.t 8)) 31
  .nil))))))) true)
 (.seq (.block 0 (.seq (.region (Nodes.flat none (.op (some 10) (.fieldAddr 0 (.t 2)) 0
  (.op (some 11) (.load none (.t 10)) 0
  (.op (some 12) (.bin .eql (.t 11) (.c (.int .i64 0))) 0
  (.op (some 13) (.move (.t 12)) 0
  (.grd 13 false
  (.op (some 14) (.load (some 2) (.t 2)) 0
  (.op (some 15) (.load (some 2) (.t 3)) 0
  (.op (some 16) (.eqs false [(0, 1), (1, 1)] (.t 14) (.t 15)) 0
  .nil)))
  (.op (some 17) (.pick (.t 13) (.c (.bool true)) (.t 16)) 0
  (.op (some 9) (.move (.t 17)) 0
  .nil)))))))) false)
 (.cond (.t 9)
 (.seq (.region (Nodes.flat none (.op (some 18) (.load (some 2) (.t 3)) 0
  (.op none (.store 2 (.t 4) (.t 18)) 0
  .nil))) false)
 .ret)
 (.seq (.region (Nodes.flat none (.op (some 20) (.fieldAddr 0 (.t 3)) 0
  (.op (some 21) (.load none (.t 20)) 0
  (.op (some 22) (.bin .eql (.t 21) (.c (.int .i64 0))) 0
  (.op (some 19) (.move (.t 22)) 0
  .nil))))) false)
 (.cond (.t 19)
 (.seq (.region (Nodes.flat none (.op (some 23) (.load (some 2) (.t 2)) 0
  (.op none (.store 2 (.t 4) (.t 23)) 0
  .nil))) false)
 .ret)
 .skip)))))
 (.seq (.region (Nodes.flat none (.op (some 24) (.build [(.int .i64 0), (.int .i64 0)] [(0, 1, (.c (.int .i64 2)))]) 0
  (.op none (.store 2 (.t 4) (.t 24)) 0
  .nil))) false)
 .ret)))),
 [.cell (some 2) 4]⟩
theorem b17 : fnOf Go.Proofs.Try.prog (owOf []) 17 = some c17 := by kernel_rfl

/-- bywash/flat.Of -/
def c40 : RFn := ⟨(.seq (.region (Nodes.flat none (.op (some 2) (.alloc (.agg [(.int .i64 0), (.int .i64 0)])) 0
  .nil)) false)
 (.seq (.region (Nodes.flat none (.op (some 3) (.move (.t 0)) 0
  (.op (some 4) (.call 63 [(.t 3)]) 0
  (.op (some 5) (.build [(.int .i64 0), (.int .i64 0)] [(0, 1, (.c (.int .i64 1))), (1, 1, (.t 4))]) 0
  (.op none (.store 2 (.t 2) (.t 5)) 0
  .nil))))) false)
 .ret)),
 [.cell (some 2) 2]⟩
theorem b40 : fnOf Go.Proofs.Try.prog (owOf []) 40 = some c40 := by kernel_rfl

/-- bywash/flat.sane -/
def c46 : RFn := ⟨(.seq (.region (Nodes.flat none (.op (some 1) (.box (.t 0)) 0
  (.op (some 2) (.alloc (.agg [(.int .i64 0), (.int .i64 0)])) 0
  .nil))) false)
 (.seq (.seq (.region (Nodes.flat none (.op (some 3) (.load (some 2) (.t 1)) 0
  (.op (some 4) (.call 67 [(.t 3)]) 0
  (.op (some 5) (.un .not (.t 4)) 0
  .nil)))) false)
 (.cond (.t 5)
 (.seq (.region (Nodes.flat none (.op (some 6) (.build [(.int .i64 0), (.int .i64 0)] [(0, 1, (.c (.int .i64 2)))]) 0
  (.op none (.store 2 (.t 2) (.t 6)) 0
  .nil))) false)
 .ret)
 .skip))
 (.seq (.region (Nodes.flat none (.op (some 7) (.load (some 2) (.t 1)) 0
  (.op none (.store 2 (.t 2) (.t 7)) 0
  .nil))) false)
 .ret))),
 [.cell (some 2) 2]⟩
theorem b46 : fnOf Go.Proofs.Try.prog (owOf []) 46 = some c46 := by kernel_rfl

/-- bywash/bywashref02.Leq -/
def c51 : RFn := ⟨(.seq (.region (Nodes.flat none (.op (some 2) (.box (.t 0)) 0
  (.op (some 3) (.box (.t 1)) 0
  (.op (some 4) (.move (.c (.bool false))) 0
  .nil)))) false)
 (.seq (.region (Nodes.flat none (.op (some 5) (.load (some 2) (.t 2)) 0
  (.op (some 6) (.call 70 [(.t 5)]) 0
  (.op none (.store 2 (.t 2) (.t 6)) 0
  .nil)))) false)
 (.seq (.region (Nodes.flat none (.op (some 7) (.load (some 2) (.t 3)) 0
  (.op (some 8) (.call 70 [(.t 7)]) 0
  (.op none (.store 2 (.t 3) (.t 8)) 0
  .nil)))) false)
 (.seq (.region (Nodes.flat none (.op (some 9) (.fieldAddr 0 (.t 2)) 0
  (.op (some 10) (.load none (.t 9)) 0
  (.op (some 11) (.bin .eql (.t 10) (.c (.int .i64 0))) 0
  (.op (some 12) (.move (.t 11)) 0
  (.grd 12 false
  (.op (some 13) (.fieldAddr 0 (.t 3)) 0
  (.op (some 14) (.load none (.t 13)) 0
  (.op (some 15) (.bin .eql (.t 14) (.c (.int .i64 2))) 0
  .nil)))
  (.op (some 16) (.pick (.t 12) (.c (.bool true)) (.t 15)) 0
  (.op (some 17) (.move (.t 16)) 0
  (.grd 17 false
  (.op (some 18) (.load (some 2) (.t 2)) 0
  (.op (some 19) (.load (some 2) (.t 3)) 0
  (.op (some 20) (.eqs false [(0, 1), (1, 1)] (.t 18) (.t 19)) 0
  .nil)))
  (.op (some 21) (.pick (.t 17) (.c (.bool true)) (.t 20)) 0
  (.op (some 4) (.move (.t 21)) 0
  .nil))))))))))) false)
 .ret)))),
 [.tmp 4]⟩
theorem b51 : fnOf Go.Proofs.Try.prog (owOf []) 51 = some c51 := by kernel_rfl

/-- bywash/bywashref02.Join -/
def c53 : RFn := ⟨(.seq (.region (Nodes.flat none (.op (some 2) (.box (.t 0)) 0
  (.op (some 3) (.box (.t 1)) 0
  (.op (some 4) (.alloc (.agg [(.int .i64 0), (.int .i64 0)])) 0
  .nil)))) false)
 (.seq (.seq (.region (Nodes.flat none (.op (some 5) (.load (some 2) (.t 2)) 0
  (.op (some 6) (.load (some 2) (.t 3)) 0
  (.op (some 7) (.call 51 [(.t 5), (.t 6)]) 0
  .nil)))) false)
 (.cond (.t 7)
 (.seq (.region (Nodes.flat none (.op (some 8) (.load (some 2) (.t 3)) 0
  (.op (some 9) (.call 70 [(.t 8)]) 0
  (.op none (.store 2 (.t 4) (.t 9)) 0
  .nil)))) false)
 .ret)
 .skip))
 (.seq (.seq (.region (Nodes.flat none (.op (some 10) (.load (some 2) (.t 3)) 0
  (.op (some 11) (.load (some 2) (.t 2)) 0
  (.op (some 12) (.call 51 [(.t 10), (.t 11)]) 0
  .nil)))) false)
 (.cond (.t 12)
 (.seq (.region (Nodes.flat none (.op (some 13) (.load (some 2) (.t 2)) 0
  (.op (some 14) (.call 70 [(.t 13)]) 0
  (.op none (.store 2 (.t 4) (.t 14)) 0
  .nil)))) false)
 .ret)
 .skip))
 (.seq (.region (Nodes.flat none (.op (some 15) (.build [(.int .i64 0), (.int .i64 0)] [(0, 1, (.c (.int .i64 2))), (1, 1, (.c (.int .i64 0)))]) 0
  (.op none (.store 2 (.t 4) (.t 15)) 0
  .nil))) false)
 .ret)))),
 [.cell (some 2) 4]⟩
theorem b53 : fnOf Go.Proofs.Try.prog (owOf []) 53 = some c53 := by kernel_rfl

/-- bywash/flat.Wrap -/
def c63 : RFn := ⟨(.seq (.region (Nodes.flat none (.op (some 2) (.move (.c (.int .i64 0))) 0
  .nil)) false)
 (.seq (.region (Nodes.flat none (.op (some 3) (.move (.t 0)) 0
  (.op (some 4) (.conv .i32 (.t 3)) 0
  (.op (some 5) (.conv .i64 (.t 4)) 0
  (.op (some 2) (.move (.t 5)) 0
  .nil))))) false)
 .ret)),
 [.tmp 2]⟩
theorem b63 : fnOf Go.Proofs.Try.prog (owOf []) 63 = some c63 := by kernel_rfl

/-- bywash/flat.Leq -/
def c64 : RFn := ⟨(.seq (.region (Nodes.flat none (.op (some 2) (.box (.t 0)) 0
  (.op (some 3) (.box (.t 1)) 0
  (.op (some 4) (.move (.c (.bool false))) 0
  .nil)))) false)
 (.seq (.region (Nodes.flat none (.op (some 5) (.load (some 2) (.t 2)) 0
  (.op (some 6) (.load (some 2) (.t 3)) 0
  (.op (some 7) (.call 17 [(.t 5), (.t 6)]) 3
  (.op (some 8) (.load (some 2) (.t 3)) 0
  (.op (some 9) (.call 46 [(.t 8)]) 15
  (.op (some 10) (.eqs false [(0, 1), (1, 1)] (.t 7) (.t 9)) 31
  (.op (some 4) (.move (.t 10)) 63
  .nil)))))))) true)
 .ret)),
 [.tmp 4]⟩
theorem b64 : fnOf Go.Proofs.Try.prog (owOf []) 64 = some c64 := by kernel_rfl

/-- bywash/flat.Sane -/
def c67 : RFn := ⟨(.seq (.region (Nodes.flat none (.op (some 1) (.box (.t 0)) 0
  (.op (some 2) (.move (.c (.bool false))) 0
  .nil))) false)
 (.seq (.seq (.region (Nodes.flat none (.op (some 3) (.fieldAddr 0 (.t 1)) 0
  (.op (some 4) (.load none (.t 3)) 0
  .nil))) false)
 (.block 0 (.seq (.region (Nodes.flat none (.op (some 6) (.bin .eql (.t 4) (.c (.int .i64 1))) 0
  (.op (some 5) (.move (.t 6)) 0
  .nil))) false)
 (.cond (.t 5)
 (.seq (.region (Nodes.flat none (.op (some 7) (.fieldAddr 1 (.t 1)) 0
  (.op (some 8) (.load none (.t 7)) 0
  (.op (some 9) (.bin .geq (.t 8) (.c (.int .i64 (-2147483648)))) 0
  (.op (some 10) (.move (.t 9)) 0
  (.grd 10 true
  (.op (some 11) (.fieldAddr 1 (.t 1)) 0
  (.op (some 12) (.load none (.t 11)) 0
  (.op (some 13) (.bin .leq (.t 12) (.c (.int .i64 2147483647))) 0
  .nil)))
  (.op (some 14) (.pick (.t 10) (.t 13) (.c (.bool false))) 0
  (.op (some 2) (.move (.t 14)) 0
  .nil)))))))) false)
 .ret)
 (.seq (.seq (.region (Nodes.flat none (.op (some 16) (.bin .eql (.t 4) (.c (.int .i64 0))) 0
  (.op (some 15) (.move (.t 16)) 0
  .nil))) false)
 (.cond (.t 15)
 .skip
 (.region (Nodes.flat none (.op (some 17) (.bin .eql (.t 4) (.c (.int .i64 2))) 0
  (.op (some 15) (.move (.t 17)) 0
  .nil))) false)))
 (.cond (.t 15)
 (.seq (.region (Nodes.flat none (.op (some 18) (.fieldAddr 1 (.t 1)) 0
  (.op (some 19) (.load none (.t 18)) 0
  (.op (some 20) (.bin .eql (.t 19) (.c (.int .i64 0))) 0
  (.op (some 2) (.move (.t 20)) 0
  .nil))))) false)
 .ret)
 .skip))))))
 (.seq (.region (Nodes.flat none (.op (some 2) (.move (.c (.bool false))) 0
  .nil)) false)
 .ret))),
 [.tmp 2]⟩
theorem b67 : fnOf Go.Proofs.Try.prog (owOf []) 67 = some c67 := by kernel_rfl

/-- bywash/bywashref02.sane -/
def c70 : RFn := ⟨(.seq (.region (Nodes.flat none (.op (some 1) (.box (.t 0)) 0
  (.op (some 2) (.alloc (.agg [(.int .i64 0), (.int .i64 0)])) 0
  .nil))) false)
 (.seq (.seq (.region (Nodes.flat none (.op (some 3) (.load (some 2) (.t 1)) 0
  (.op (some 4) (.call 77 [(.t 3)]) 0
  (.op (some 5) (.un .not (.t 4)) 0
  .nil)))) false)
 (.cond (.t 5)
 (.seq (.region (Nodes.flat none (.op (some 6) (.build [(.int .i64 0), (.int .i64 0)] [(0, 1, (.c (.int .i64 2))), (1, 1, (.c (.int .i64 0)))]) 0
  (.op none (.store 2 (.t 2) (.t 6)) 0
  .nil))) false)
 .ret)
 .skip))
 (.seq (.region (Nodes.flat none (.op (some 7) (.load (some 2) (.t 1)) 0
  (.op none (.store 2 (.t 2) (.t 7)) 0
  .nil))) false)
 .ret))),
 [.cell (some 2) 2]⟩
theorem b70 : fnOf Go.Proofs.Try.prog (owOf []) 70 = some c70 := by kernel_rfl

/-- bywash/bywashref02.Sane -/
def c77 : RFn := ⟨(.seq (.region (Nodes.flat none (.op (some 1) (.box (.t 0)) 0
  (.op (some 2) (.move (.c (.bool false))) 0
  .nil))) false)
 (.seq (.seq (.region (Nodes.flat none (.op (some 3) (.fieldAddr 0 (.t 1)) 0
  (.op (some 4) (.load none (.t 3)) 0
  (.op (some 5) (.bin .eql (.t 4) (.c (.int .i64 1))) 0
  .nil)))) false)
 (.cond (.t 5)
 (.seq (.region (Nodes.flat none (.op (some 6) (.fieldAddr 1 (.t 1)) 0
  (.op (some 7) (.load none (.t 6)) 0
  (.op (some 8) (.bin .geq (.t 7) (.c (.int .i64 (-2147483648)))) 0
  (.op (some 9) (.move (.t 8)) 0
  (.grd 9 true
  (.op (some 10) (.fieldAddr 1 (.t 1)) 0
  (.op (some 11) (.load none (.t 10)) 0
  (.op (some 12) (.bin .leq (.t 11) (.c (.int .i64 2147483647))) 0
  .nil)))
  (.op (some 13) (.pick (.t 9) (.t 12) (.c (.bool false))) 0
  (.op (some 2) (.move (.t 13)) 0
  .nil)))))))) false)
 .ret)
 .skip))
 (.seq (.region (Nodes.flat none (.op (some 14) (.fieldAddr 0 (.t 1)) 0
  (.op (some 15) (.load none (.t 14)) 0
  (.op (some 16) (.bin .eql (.t 15) (.c (.int .i64 0))) 0
  (.op (some 17) (.move (.t 16)) 0
  (.grd 17 false
  (.op (some 18) (.fieldAddr 0 (.t 1)) 0
  (.op (some 19) (.load none (.t 18)) 0
  (.op (some 20) (.bin .eql (.t 19) (.c (.int .i64 2))) 0
  .nil)))
  (.op (some 21) (.pick (.t 17) (.c (.bool true)) (.t 20)) 0
  (.op (some 22) (.move (.t 21)) 0
  (.grd 22 true
  (.op (some 23) (.fieldAddr 1 (.t 1)) 0
  (.op (some 24) (.load none (.t 23)) 0
  (.op (some 25) (.bin .eql (.t 24) (.c (.int .i64 0))) 0
  .nil)))
  (.op (some 26) (.pick (.t 22) (.t 25) (.c (.bool false))) 0
  (.op (some 2) (.move (.t 26)) 0
  .nil))))))))))) false)
 .ret))),
 [.tmp 2]⟩
theorem b77 : fnOf Go.Proofs.Try.prog (owOf []) 77 = some c77 := by kernel_rfl

end Go.Vm
