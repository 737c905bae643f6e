/- Code. -/
import Derived.Test.YtjegabeechopdaaVnC
import Derived.KernelRfl
import Derived.Test.YtjegabeechopdaaProg
set_option maxRecDepth 100000
set_option linter.unusedSimpArgs false
set_option linter.unusedVariables false
namespace Go.Vm
open Go

/-- bywash/flat.Join -/
def c22 : RFn := ⟨(.seq (.region (Nodes.flat none (.op (some 2) (.box (.t 0)) 0
  (.op (some 3) (.box (.t 1)) 0
  (.op (some 4) (.alloc (.agg [(.int .i64 0), (.int .i64 0)])) 0
  .nil)))) false)
 (.seq (.region (Nodes.flat none (.op (some 5) (.load (some 2) (.t 2)) 0
  (.op (some 6) (.call 89 [(.t 5)]) 1
  (.op (some 7) (.load (some 2) (.t 3)) 0
  (.op (some 8) (.call 89 [(.t 7)]) 7
  (.op none (.store 2 (.t 2) (.t 6)) 15
  (.op none (.store 2 (.t 3) (.t 8)) 31
  .nil))))))) true)
 (.seq (.block 0 (.seq (.region (Nodes.flat none (.op (some 10) (.fieldAddr 0 (.t 2)) 0
  (.op (some 11) (.load none (.t 10)) 0
  (.op (some 12) (.bin .eql (.t 11) (.c (.int .i64 0))) 0
  (.op (some 13) (.move (.t 12)) 0
  (.grd 13 false
  (.op (some 14) (.load (some 2) (.t 2)) 0
  (.op (some 15) (.load (some 2) (.t 3)) 0
  (.op (some 16) (.eqs false [(0, 1), (1, 1)] (.t 14) (.t 15)) 0
  .nil)))
  (.op (some 17) (.pick (.t 13) (.c (.bool true)) (.t 16)) 0
  (.op (some 9) (.move (.t 17)) 0
  .nil)))))))) false)
 (.cond (.t 9)
 (.seq (.region (Nodes.flat none (.op (some 18) (.load (some 2) (.t 3)) 0
  (.op none (.store 2 (.t 4) (.t 18)) 0
  .nil))) false)
 .ret)
 (.seq (.region (Nodes.flat none (.op (some 20) (.fieldAddr 0 (.t 3)) 0
  (.op (some 21) (.load none (.t 20)) 0
  (.op (some 22) (.bin .eql (.t 21) (.c (.int .i64 0))) 0
  (.op (some 19) (.move (.t 22)) 0
  .nil))))) false)
 (.cond (.t 19)
 (.seq (.region (Nodes.flat none (.op (some 23) (.load (some 2) (.t 2)) 0
  (.op none (.store 2 (.t 4) (.t 23)) 0
  .nil))) false)
 .ret)
 .skip)))))
 (.seq (.region (Nodes.flat none (.op (some 24) (.build [(.int .i64 0), (.int .i64 0)] [(0, 1, (.c (.int .i64 2)))]) 0
  (.op none (.store 2 (.t 4) (.t 24)) 0
  .nil))) false)
 .ret)))),
 [.cell (some 2) 4]⟩
theorem b22 : fnOf Go.Proofs.Try.prog (owOf []) 22 = some c22 := by kernel_rfl

/-- bywash/flat.Leq -/
def c23 : RFn := ⟨(.seq (.region (Nodes.flat none (.op (some 2) (.box (.t 0)) 0
  (.op (some 3) (.box (.t 1)) 0
  (.op (some 4) (.move (.c (.bool false))) 0
  .nil)))) false)
 (.seq (.region (Nodes.flat none (.op (some 5) (.load (some 2) (.t 2)) 0
  (.op (some 6) (.load (some 2) (.t 3)) 0
  (.op (some 7) (.call 22 [(.t 5), (.t 6)]) 3
  (.op (some 8) (.load (some 2) (.t 3)) 0
  (.op (some 9) (.call 89 [(.t 8)]) 15
  (.op (some 10) (.eqs false [(0, 1), (1, 1)] (.t 7) (.t 9)) 31
  (.op (some 4) (.move (.t 10)) 63
  .nil)))))))) true)
 .ret)),
 [.tmp 4]⟩
theorem b23 : fnOf Go.Proofs.Try.prog (owOf []) 23 = some c23 := by kernel_rfl

/-- bywash/flat.Sane -/
def c24 : RFn := ⟨(.seq (.region (Nodes.flat none (.op (some 1) (.box (.t 0)) 0
  (.op (some 2) (.move (.c (.bool false))) 0
  .nil))) false)
 (.seq (.seq (.region (Nodes.flat none (.op (some 3) (.fieldAddr 0 (.t 1)) 0
  (.op (some 4) (.load none (.t 3)) 0
  .nil))) false)
 (.block 0 (.seq (.region (Nodes.flat none (.op (some 6) (.bin .eql (.t 4) (.c (.int .i64 1))) 0
  (.op (some 5) (.move (.t 6)) 0
  .nil))) false)
 (.cond (.t 5)
 (.seq (.region (Nodes.flat none (.op (some 7) (.fieldAddr 1 (.t 1)) 0
  (.op (some 8) (.load none (.t 7)) 0
  (.op (some 9) (.bin .geq (.t 8) (.c (.int .i64 (-2147483648)))) 0
  (.op (some 10) (.move (.t 9)) 0
  (.grd 10 true
  (.op (some 11) (.fieldAddr 1 (.t 1)) 0
  (.op (some 12) (.load none (.t 11)) 0
  (.op (some 13) (.bin .leq (.t 12) (.c (.int .i64 2147483647))) 0
  .nil)))
  (.op (some 14) (.pick (.t 10) (.t 13) (.c (.bool false))) 0
  (.op (some 2) (.move (.t 14)) 0
  .nil)))))))) false)
 .ret)
 (.seq (.seq (.region (Nodes.flat none (.op (some 16) (.bin .eql (.t 4) (.c (.int .i64 0))) 0
  (.op (some 15) (.move (.t 16)) 0
  .nil))) false)
 (.cond (.t 15)
 .skip
 (.region (Nodes.flat none (.op (some 17) (.bin .eql (.t 4) (.c (.int .i64 2))) 0
  (.op (some 15) (.move (.t 17)) 0
  .nil))) false)))
 (.cond (.t 15)
 (.seq (.region (Nodes.flat none (.op (some 18) (.fieldAddr 1 (.t 1)) 0
  (.op (some 19) (.load none (.t 18)) 0
  (.op (some 20) (.bin .eql (.t 19) (.c (.int .i64 0))) 0
  (.op (some 2) (.move (.t 20)) 0
  .nil))))) false)
 .ret)
 .skip))))))
 (.seq (.region (Nodes.flat none (.op (some 2) (.move (.c (.bool false))) 0
  .nil)) false)
 .ret))),
 [.tmp 2]⟩
theorem b24 : fnOf Go.Proofs.Try.prog (owOf []) 24 = some c24 := by kernel_rfl

/-- bywash/flat.Height -/
def c25 : RFn := ⟨(.seq (.region (Nodes.flat none (.op (some 1) (.box (.t 0)) 0
  (.op (some 2) (.move (.c (.int .i64 0))) 0
  .nil))) false)
 (.seq (.region (Nodes.flat none (.op (some 3) (.load (some 2) (.t 1)) 0
  (.op (some 4) (.call 89 [(.t 3)]) 0
  (.op (some 5) (.field 0 none (.t 4)) 0
  (.op (some 2) (.move (.t 5)) 0
  .nil))))) false)
 .ret)),
 [.tmp 2]⟩
theorem b25 : fnOf Go.Proofs.Try.prog (owOf []) 25 = some c25 := by kernel_rfl

/-- bywash/flat.Of -/
def c26 : RFn := ⟨(.seq (.region (Nodes.flat none (.op (some 2) (.alloc (.agg [(.int .i64 0), (.int .i64 0)])) 0
  .nil)) false)
 (.seq (.region (Nodes.flat none (.op (some 3) (.move (.t 0)) 0
  (.op (some 4) (.call 35 [(.t 3)]) 0
  (.op (some 5) (.build [(.int .i64 0), (.int .i64 0)] [(0, 1, (.c (.int .i64 1))), (1, 1, (.t 4))]) 0
  (.op none (.store 2 (.t 2) (.t 5)) 0
  .nil))))) false)
 .ret)),
 [.cell (some 2) 2]⟩
theorem b26 : fnOf Go.Proofs.Try.prog (owOf []) 26 = some c26 := by kernel_rfl

/-- bywash/flat.Add -/
def c27 : RFn := ⟨(.seq (.region (Nodes.flat none (.op (some 2) (.box (.t 0)) 0
  (.op (some 3) (.box (.t 1)) 0
  (.op (some 4) (.alloc (.agg [(.int .i64 0), (.int .i64 0)])) 0
  .nil)))) false)
 (.seq (.region (Nodes.flat none (.op (some 5) (.load (some 2) (.t 2)) 0
  (.op (some 6) (.load (some 2) (.t 3)) 0
  (.op (some 7) (.call 90 [(.t 5), (.t 6), (.c (.fn 91 []))]) 0
  (.op none (.store 2 (.t 4) (.t 7)) 0
  .nil))))) false)
 .ret)),
 [.cell (some 2) 4]⟩
theorem b27 : fnOf Go.Proofs.Try.prog (owOf []) 27 = some c27 := by kernel_rfl

/-- bywash/flat.Sub -/
def c28 : RFn := ⟨(.seq (.region (Nodes.flat none (.op (some 2) (.box (.t 0)) 0
  (.op (some 3) (.box (.t 1)) 0
  (.op (some 4) (.alloc (.agg [(.int .i64 0), (.int .i64 0)])) 0
  .nil)))) false)
 (.seq (.region (Nodes.flat none (.op (some 5) (.load (some 2) (.t 2)) 0
  (.op (some 6) (.load (some 2) (.t 3)) 0
  (.op (some 7) (.call 90 [(.t 5), (.t 6), (.c (.fn 92 []))]) 0
  (.op none (.store 2 (.t 4) (.t 7)) 0
  .nil))))) false)
 .ret)),
 [.cell (some 2) 4]⟩
theorem b28 : fnOf Go.Proofs.Try.prog (owOf []) 28 = some c28 := by kernel_rfl

/-- bywash/flat.Neg -/
def c29 : RFn := ⟨(.seq (.region (Nodes.flat none (.op (some 1) (.box (.t 0)) 0
  (.op (some 2) (.alloc (.agg [(.int .i64 0), (.int .i64 0)])) 0
  .nil))) false)
 (.seq (.region (Nodes.flat none (.op (some 3) (.call 26 [(.c (.int .i64 0))]) 0
  (.op (some 4) (.load (some 2) (.t 1)) 0
  (.op (some 5) (.call 28 [(.t 3), (.t 4)]) 3
  (.op none (.store 2 (.t 2) (.t 5)) 7
  .nil))))) true)
 .ret)),
 [.cell (some 2) 2]⟩
theorem b29 : fnOf Go.Proofs.Try.prog (owOf []) 29 = some c29 := by kernel_rfl

/-- bywash/flat.Mul -/
def c30 : RFn := ⟨(.seq (.region (Nodes.flat none (.op (some 2) (.box (.t 0)) 0
  (.op (some 3) (.box (.t 1)) 0
  (.op (some 4) (.alloc (.agg [(.int .i64 0), (.int .i64 0)])) 0
  .nil)))) false)
 (.seq (.region (Nodes.flat none (.op (some 5) (.load (some 2) (.t 2)) 0
  (.op (some 6) (.load (some 2) (.t 3)) 0
  (.op (some 7) (.call 90 [(.t 5), (.t 6), (.c (.fn 93 []))]) 0
  (.op none (.store 2 (.t 4) (.t 7)) 0
  .nil))))) false)
 .ret)),
 [.cell (some 2) 4]⟩
theorem b30 : fnOf Go.Proofs.Try.prog (owOf []) 30 = some c30 := by kernel_rfl

/-- bywash/bywashref02.Sane -/
def c31 : RFn := ⟨(.seq (.region (Nodes.flat none (.op (some 1) (.box (.t 0)) 0
  (.op (some 2) (.move (.c (.bool false))) 0
  .nil))) false)
 (.seq (.seq (.region (Nodes.flat none (.op (some 3) (.fieldAddr 0 (.t 1)) 0
  (.op (some 4) (.load none (.t 3)) 0
  (.op (some 5) (.bin .eql (.t 4) (.c (.int .i64 1))) 0
  .nil)))) false)
 (.cond (.t 5)
 (.seq (.region (Nodes.flat none (.op (some 6) (.fieldAddr 1 (.t 1)) 0
  (.op (some 7) (.load none (.t 6)) 0
  (.op (some 8) (.bin .geq (.t 7) (.c (.int .i64 (-2147483648)))) 0
  (.op (some 9) (.move (.t 8)) 0
  (.grd 9 true
  (.op (some 10) (.fieldAddr 1 (.t 1)) 0
  (.op (some 11) (.load none (.t 10)) 0
  (.op (some 12) (.bin .leq (.t 11) (.c (.int .i64 2147483647))) 0
  .nil)))
  (.op (some 13) (.pick (.t 9) (.t 12) (.c (.bool false))) 0
  (.op (some 2) (.move (.t 13)) 0
  .nil)))))))) false)
 .ret)
 .skip))
 (.seq (.region (Nodes.flat none (.op (some 14) (.fieldAddr 0 (.t 1)) 0
  (.op (some 15) (.load none (.t 14)) 0
  (.op (some 16) (.bin .eql (.t 15) (.c (.int .i64 0))) 0
  (.op (some 17) (.move (.t 16)) 0
  (.grd 17 false
  (.op (some 18) (.fieldAddr 0 (.t 1)) 0
  (.op (some 19) (.load none (.t 18)) 0
  (.op (some 20) (.bin .eql (.t 19) (.c (.int .i64 2))) 0
  .nil)))
  (.op (some 21) (.pick (.t 17) (.c (.bool true)) (.t 20)) 0
  (.op (some 22) (.move (.t 21)) 0
  (.grd 22 true
  (.op (some 23) (.fieldAddr 1 (.t 1)) 0
  (.op (some 24) (.load none (.t 23)) 0
  (.op (some 25) (.bin .eql (.t 24) (.c (.int .i64 0))) 0
  .nil)))
  (.op (some 26) (.pick (.t 22) (.t 25) (.c (.bool false))) 0
  (.op (some 2) (.move (.t 26)) 0
  .nil))))))))))) false)
 .ret))),
 [.tmp 2]⟩
theorem b31 : fnOf Go.Proofs.Try.prog (owOf []) 31 = some c31 := by kernel_rfl

/-- bywash/bywashref02.Join -/
def c33 : RFn := ⟨(.seq (.region (Nodes.flat none (.op (some 2) (.box (.t 0)) 0
  (.op (some 3) (.box (.t 1)) 0
  (.op (some 4) (.alloc (.agg [(.int .i64 0), (.int .i64 0)])) 0
  .nil)))) false)
 (.seq (.seq (.region (Nodes.flat none (.op (some 5) (.load (some 2) (.t 2)) 0
  (.op (some 6) (.load (some 2) (.t 3)) 0
  (.op (some 7) (.call 34 [(.t 5), (.t 6)]) 0
  .nil)))) false)
 (.cond (.t 7)
 (.seq (.region (Nodes.flat none (.op (some 8) (.load (some 2) (.t 3)) 0
  (.op (some 9) (.call 94 [(.t 8)]) 0
  (.op none (.store 2 (.t 4) (.t 9)) 0
  .nil)))) false)
 .ret)
 .skip))
 (.seq (.seq (.region (Nodes.flat none (.op (some 10) (.load (some 2) (.t 3)) 0
  (.op (some 11) (.load (some 2) (.t 2)) 0
  (.op (some 12) (.call 34 [(.t 10), (.t 11)]) 0
  .nil)))) false)
 (.cond (.t 12)
 (.seq (.region (Nodes.flat none (.op (some 13) (.load (some 2) (.t 2)) 0
  (.op (some 14) (.call 94 [(.t 13)]) 0
  (.op none (.store 2 (.t 4) (.t 14)) 0
  .nil)))) false)
 .ret)
 .skip))
 (.seq (.region (Nodes.flat none (.op (some 15) (.build [(.int .i64 0), (.int .i64 0)] [(0, 1, (.c (.int .i64 2))), (1, 1, (.c (.int .i64 0)))]) 0
  (.op none (.store 2 (.t 4) (.t 15)) 0
  .nil))) false)
 .ret)))),
 [.cell (some 2) 4]⟩
theorem b33 : fnOf Go.Proofs.Try.prog (owOf []) 33 = some c33 := by kernel_rfl

/-- bywash/bywashref02.Leq -/
def c34 : RFn := ⟨(.seq (.region (Nodes.flat none (.op (some 2) (.box (.t 0)) 0
  (.op (some 3) (.box (.t 1)) 0
  (.op (some 4) (.move (.c (.bool false))) 0
  .nil)))) false)
 (.seq (.region (Nodes.flat none (.op (some 5) (.load (some 2) (.t 2)) 0
  (.op (some 6) (.call 94 [(.t 5)]) 0
  (.op none (.store 2 (.t 2) (.t 6)) 0
  .nil)))) false)
 (.seq (.region (Nodes.flat none (.op (some 7) (.load (some 2) (.t 3)) 0
  (.op (some 8) (.call 94 [(.t 7)]) 0
  (.op none (.store 2 (.t 3) (.t 8)) 0
  .nil)))) false)
 (.seq (.region (Nodes.flat none (.op (some 9) (.fieldAddr 0 (.t 2)) 0
  (.op (some 10) (.load none (.t 9)) 0
  (.op (some 11) (.bin .eql (.t 10) (.c (.int .i64 0))) 0
  (.op (some 12) (.move (.t 11)) 0
  (.grd 12 false
  (.op (some 13) (.fieldAddr 0 (.t 3)) 0
  (.op (some 14) (.load none (.t 13)) 0
  (.op (some 15) (.bin .eql (.t 14) (.c (.int .i64 2))) 0
  .nil)))
  (.op (some 16) (.pick (.t 12) (.c (.bool true)) (.t 15)) 0
  (.op (some 17) (.move (.t 16)) 0
  (.grd 17 false
  (.op (some 18) (.load (some 2) (.t 2)) 0
  (.op (some 19) (.load (some 2) (.t 3)) 0
  (.op (some 20) (.eqs false [(0, 1), (1, 1)] (.t 18) (.t 19)) 0
  .nil)))
  (.op (some 21) (.pick (.t 17) (.c (.bool true)) (.t 20)) 0
  (.op (some 4) (.move (.t 21)) 0
  .nil))))))))))) false)
 .ret)))),
 [.tmp 4]⟩
theorem b34 : fnOf Go.Proofs.Try.prog (owOf []) 34 = some c34 := by kernel_rfl

/-- bywash/flat.Wrap -/
def c35 : RFn := ⟨(.seq (.region (Nodes.flat none (.op (some 2) (.move (.c (.int .i64 0))) 0
  .nil)) false)
 (.seq (.region (Nodes.flat none (.op (some 3) (.move (.t 0)) 0
  (.op (some 4) (.conv .i32 (.t 3)) 0
  (.op (some 5) (.conv .i64 (.t 4)) 0
  (.op (some 2) (.move (.t 5)) 0
  .nil))))) false)
 .ret)),
 [.tmp 2]⟩
theorem b35 : fnOf Go.Proofs.Try.prog (owOf []) 35 = some c35 := by kernel_rfl

/-- bywash/bywashref02.Wrap -/
def c36 : RFn := ⟨(.seq (.region (Nodes.flat none (.op (some 2) (.move (.c (.int .i64 0))) 0
  .nil)) false)
 (.seq (.region (Nodes.flat none (.op (some 4) (.move (.t 0)) 0
  (.op (some 5) (.bin .rem (.t 4) (.c (.int .i64 4294967296))) 0
  (.op (some 3) (.move (.t 5)) 0
  .nil)))) false)
 (.seq (.seq (.region (Nodes.flat none (.op (some 6) (.move (.t 3)) 0
  (.op (some 7) (.bin .lss (.t 6) (.c (.int .i64 0))) 0
  .nil))) false)
 (.cond (.t 7)
 (.region (Nodes.flat none (.op (some 8) (.move (.t 3)) 0
  (.op (some 9) (.bin .add (.t 8) (.c (.int .i64 4294967296))) 0
  (.op (some 3) (.move (.t 9)) 0
  .nil)))) false)
 .skip))
 (.seq (.seq (.region (Nodes.flat none (.op (some 10) (.move (.t 3)) 0
  (.op (some 11) (.bin .gtr (.t 10) (.c (.int .i64 2147483647))) 0
  .nil))) false)
 (.cond (.t 11)
 (.region (Nodes.flat none (.op (some 12) (.move (.t 3)) 0
  (.op (some 13) (.bin .sub (.t 12) (.c (.int .i64 4294967296))) 0
  (.op (some 3) (.move (.t 13)) 0
  .nil)))) false)
 .skip))
 (.seq (.region (Nodes.flat none (.op (some 14) (.move (.t 3)) 0
  (.op (some 2) (.move (.t 14)) 0
  .nil))) false)
 .ret))))),
 [.tmp 2]⟩
theorem b36 : fnOf Go.Proofs.Try.prog (owOf []) 36 = some c36 := by kernel_rfl

/-- bywash/bywashref02.Of -/
def c37 : RFn := ⟨(.seq (.region (Nodes.flat none (.op (some 2) (.alloc (.agg [(.int .i64 0), (.int .i64 0)])) 0
  .nil)) false)
 (.seq (.region (Nodes.flat none (.op (some 3) (.move (.t 0)) 0
  (.op (some 4) (.call 36 [(.t 3)]) 0
  (.op (some 5) (.build [(.int .i64 0), (.int .i64 0)] [(0, 1, (.c (.int .i64 1))), (1, 1, (.t 4))]) 0
  (.op none (.store 2 (.t 2) (.t 5)) 0
  .nil))))) false)
 .ret)),
 [.cell (some 2) 2]⟩
theorem b37 : fnOf Go.Proofs.Try.prog (owOf []) 37 = some c37 := by kernel_rfl

/-- bywash/bywashref02.Height -/
def c38 : RFn := ⟨(.seq (.region (Nodes.flat none (.op (some 1) (.box (.t 0)) 0
  (.op (some 2) (.move (.c (.int .i64 0))) 0
  .nil))) false)
 (.seq (.region (Nodes.flat none (.op (some 3) (.load (some 2) (.t 1)) 0
  (.op (some 4) (.call 94 [(.t 3)]) 0
  (.op (some 5) (.field 0 none (.t 4)) 0
  (.op (some 2) (.move (.t 5)) 0
  .nil))))) false)
 .ret)),
 [.tmp 2]⟩
theorem b38 : fnOf Go.Proofs.Try.prog (owOf []) 38 = some c38 := by kernel_rfl

/-- bywash/bywashref02.Neg -/
def c39 : RFn := ⟨(.seq (.region (Nodes.flat none (.op (some 1) (.box (.t 0)) 0
  (.op (some 2) (.alloc (.agg [(.int .i64 0), (.int .i64 0)])) 0
  .nil))) false)
 (.seq (.region (Nodes.flat none (.op (some 3) (.load (some 2) (.t 1)) 0
  (.op (some 4) (.call 94 [(.t 3)]) 0
  (.op none (.store 2 (.t 1) (.t 4)) 0
  .nil)))) false)
 (.seq (.region (Nodes.flat none (.op (some 5) (.fieldAddr 0 (.t 1)) 0
  (.op (some 6) (.load none (.t 5)) 0
  (.op (some 7) (.fieldAddr 1 (.t 1)) 0
  (.op (some 8) (.load none (.t 7)) 0
  (.op (some 9) (.un .neg (.t 8)) 0
  (.op (some 10) (.call 95 [(.t 6), (.t 9)]) 0
  (.op none (.store 2 (.t 2) (.t 10)) 0
  .nil)))))))) false)
 .ret))),
 [.cell (some 2) 2]⟩
theorem b39 : fnOf Go.Proofs.Try.prog (owOf []) 39 = some c39 := by kernel_rfl

/-- bywash/bywashref02.Add -/
def c40 : RFn := ⟨(.seq (.region (Nodes.flat none (.op (some 2) (.box (.t 0)) 0
  (.op (some 3) (.box (.t 1)) 0
  (.op (some 4) (.alloc (.agg [(.int .i64 0), (.int .i64 0)])) 0
  .nil)))) false)
 (.seq (.region (Nodes.flat none (.op (some 5) (.load (some 2) (.t 2)) 0
  (.op (some 6) (.call 94 [(.t 5)]) 0
  (.op none (.store 2 (.t 2) (.t 6)) 0
  .nil)))) false)
 (.seq (.region (Nodes.flat none (.op (some 7) (.load (some 2) (.t 3)) 0
  (.op (some 8) (.call 94 [(.t 7)]) 0
  (.op none (.store 2 (.t 3) (.t 8)) 0
  .nil)))) false)
 (.seq (.region (Nodes.flat none (.op (some 9) (.load (some 2) (.t 2)) 0
  (.op (some 10) (.load (some 2) (.t 3)) 0
  (.op (some 11) (.call 96 [(.t 9), (.t 10)]) 3
  (.op (some 12) (.fieldAddr 1 (.t 2)) 0
  (.op (some 13) (.load none (.t 12)) 8
  (.op (some 14) (.fieldAddr 1 (.t 3)) 0
  (.op (some 15) (.load none (.t 14)) 32
  (.op (some 16) (.bin .add (.t 13) (.t 15)) 120
  (.op (some 17) (.call 95 [(.t 11), (.t 16)]) 255
  (.op none (.store 2 (.t 4) (.t 17)) 511
  .nil))))))))))) true)
 .ret)))),
 [.cell (some 2) 4]⟩
theorem b40 : fnOf Go.Proofs.Try.prog (owOf []) 40 = some c40 := by kernel_rfl

/-- bywash/bywashref02.Sub -/
def c41 : RFn := ⟨(.seq (.region (Nodes.flat none (.op (some 2) (.box (.t 0)) 0
  (.op (some 3) (.box (.t 1)) 0
  (.op (some 4) (.alloc (.agg [(.int .i64 0), (.int .i64 0)])) 0
  .nil)))) false)
 (.seq (.region (Nodes.flat none (.op (some 5) (.load (some 2) (.t 2)) 0
  (.op (some 6) (.call 94 [(.t 5)]) 0
  (.op none (.store 2 (.t 2) (.t 6)) 0
  .nil)))) false)
 (.seq (.region (Nodes.flat none (.op (some 7) (.load (some 2) (.t 3)) 0
  (.op (some 8) (.call 94 [(.t 7)]) 0
  (.op none (.store 2 (.t 3) (.t 8)) 0
  .nil)))) false)
 (.seq (.region (Nodes.flat none (.op (some 9) (.load (some 2) (.t 2)) 0
  (.op (some 10) (.load (some 2) (.t 3)) 0
  (.op (some 11) (.call 96 [(.t 9), (.t 10)]) 3
  (.op (some 12) (.fieldAddr 1 (.t 2)) 0
  (.op (some 13) (.load none (.t 12)) 8
  (.op (some 14) (.fieldAddr 1 (.t 3)) 0
  (.op (some 15) (.load none (.t 14)) 32
  (.op (some 16) (.bin .sub (.t 13) (.t 15)) 120
  (.op (some 17) (.call 95 [(.t 11), (.t 16)]) 255
  (.op none (.store 2 (.t 4) (.t 17)) 511
  .nil))))))))))) true)
 .ret)))),
 [.cell (some 2) 4]⟩
theorem b41 : fnOf Go.Proofs.Try.prog (owOf []) 41 = some c41 := by kernel_rfl

/-- bywash/bywashref02.Mul -/
def c42 : RFn := ⟨(.seq (.region (Nodes.flat none (.op (some 2) (.box (.t 0)) 0
  (.op (some 3) (.box (.t 1)) 0
  (.op (some 4) (.alloc (.agg [(.int .i64 0), (.int .i64 0)])) 0
  .nil)))) false)
 (.seq (.region (Nodes.flat none (.op (some 5) (.load (some 2) (.t 2)) 0
  (.op (some 6) (.call 94 [(.t 5)]) 0
  (.op none (.store 2 (.t 2) (.t 6)) 0
  .nil)))) false)
 (.seq (.region (Nodes.flat none (.op (some 7) (.load (some 2) (.t 3)) 0
  (.op (some 8) (.call 94 [(.t 7)]) 0
  (.op none (.store 2 (.t 3) (.t 8)) 0
  .nil)))) false)
 (.seq (.region (Nodes.flat none (.op (some 9) (.load (some 2) (.t 2)) 0
  (.op (some 10) (.load (some 2) (.t 3)) 0
  (.op (some 11) (.call 96 [(.t 9), (.t 10)]) 3
  (.op (some 12) (.fieldAddr 1 (.t 2)) 0
  (.op (some 13) (.load none (.t 12)) 8
  (.op (some 14) (.fieldAddr 1 (.t 3)) 0
  (.op (some 15) (.load none (.t 14)) 32
  (.op (some 16) (.bin .mul (.t 13) (.t 15)) 120
  (.op (some 17) (.call 95 [(.t 11), (.t 16)]) 255
  (.op none (.store 2 (.t 4) (.t 17)) 511
  .nil))))))))))) true)
 .ret)))),
 [.cell (some 2) 4]⟩
theorem b42 : fnOf Go.Proofs.Try.prog (owOf []) 42 = some c42 := by kernel_rfl

/-- bywash/flat.sane -/
def c89 : RFn := ⟨(.seq (.region (Nodes.flat none (.op (some 1) (.box (.t 0)) 0
  (.op (some 2) (.alloc (.agg [(.int .i64 0), (.int .i64 0)])) 0
  .nil))) false)
 (.seq (.seq (.region (Nodes.flat none (.op (some 3) (.load (some 2) (.t 1)) 0
  (.op (some 4) (.call 24 [(.t 3)]) 0
  (.op (some 5) (.un .not (.t 4)) 0
  .nil)))) false)
 (.cond (.t 5)
 (.seq (.region (Nodes.flat none (.op (some 6) (.build [(.int .i64 0), (.int .i64 0)] [(0, 1, (.c (.int .i64 2)))]) 0
  (.op none (.store 2 (.t 2) (.t 6)) 0
  .nil))) false)
 .ret)
 .skip))
 (.seq (.region (Nodes.flat none (.op (some 7) (.load (some 2) (.t 1)) 0
  (.op none (.store 2 (.t 2) (.t 7)) 0
  .nil))) false)
 .ret))),
 [.cell (some 2) 2]⟩
theorem b89 : fnOf Go.Proofs.Try.prog (owOf []) 89 = some c89 := by kernel_rfl

/-- bywash/flat.each -/
def c90 : RFn := ⟨(.seq (.region (Nodes.flat none (.op (some 3) (.box (.t 0)) 0
  (.op (some 4) (.box (.t 1)) 0
  (.op (some 6) (.alloc (.agg [(.int .i64 0), (.int .i64 0)])) 0
  .nil)))) false)
 (.seq (.region (Nodes.flat none (.op (some 7) (.load (some 2) (.t 3)) 0
  (.op (some 8) (.call 89 [(.t 7)]) 1
  (.op (some 9) (.load (some 2) (.t 4)) 0
  (.op (some 10) (.call 89 [(.t 9)]) 7
  (.op none (.store 2 (.t 3) (.t 8)) 15
  (.op none (.store 2 (.t 4) (.t 10)) 31
  .nil))))))) true)
 (.seq (.block 0 (.seq (.region (Nodes.flat none (.op (some 12) (.fieldAddr 0 (.t 3)) 0
  (.op (some 13) (.load none (.t 12)) 0
  (.op (some 14) (.bin .eql (.t 13) (.c (.int .i64 0))) 0
  (.op (some 15) (.move (.t 14)) 0
  (.grd 15 false
  (.op (some 16) (.fieldAddr 0 (.t 4)) 0
  (.op (some 17) (.load none (.t 16)) 0
  (.op (some 18) (.bin .eql (.t 17) (.c (.int .i64 0))) 0
  .nil)))
  (.op (some 19) (.pick (.t 15) (.c (.bool true)) (.t 18)) 0
  (.op (some 11) (.move (.t 19)) 0
  .nil)))))))) false)
 (.cond (.t 11)
 (.seq (.region (Nodes.flat none (.op (some 20) (.build [(.int .i64 0), (.int .i64 0)] []) 0
  (.op none (.store 2 (.t 6) (.t 20)) 0
  .nil))) false)
 .ret)
 (.seq (.region (Nodes.flat none (.op (some 22) (.fieldAddr 0 (.t 3)) 0
  (.op (some 23) (.load none (.t 22)) 0
  (.op (some 24) (.bin .eql (.t 23) (.c (.int .i64 2))) 0
  (.op (some 25) (.move (.t 24)) 0
  (.grd 25 false
  (.op (some 26) (.fieldAddr 0 (.t 4)) 0
  (.op (some 27) (.load none (.t 26)) 0
  (.op (some 28) (.bin .eql (.t 27) (.c (.int .i64 2))) 0
  .nil)))
  (.op (some 29) (.pick (.t 25) (.c (.bool true)) (.t 28)) 0
  (.op (some 21) (.move (.t 29)) 0
  .nil)))))))) false)
 (.cond (.t 21)
 (.seq (.region (Nodes.flat none (.op (some 30) (.build [(.int .i64 0), (.int .i64 0)] [(0, 1, (.c (.int .i64 2)))]) 0
  (.op none (.store 2 (.t 6) (.t 30)) 0
  .nil))) false)
 .ret)
 .skip)))))
 (.seq (.region (Nodes.flat none (.op (some 31) (.move (.t 2)) 0
  (.op (some 32) (.fieldAddr 1 (.t 3)) 0
  (.op (some 33) (.load none (.t 32)) 0
  (.op (some 34) (.fieldAddr 1 (.t 4)) 0
  (.op (some 35) (.load none (.t 34)) 0
  (.op (some 36) (.callv (.t 31) [(.t 33), (.t 35)]) 0
  (.op (some 37) (.call 26 [(.t 36)]) 0
  (.op none (.store 2 (.t 6) (.t 37)) 0
  .nil))))))))) false)
 .ret)))),
 [.cell (some 2) 6]⟩
theorem b90 : fnOf Go.Proofs.Try.prog (owOf []) 90 = some c90 := by kernel_rfl

/-- bywash/flat.Add$1 -/
def c91 : RFn := ⟨(.seq (.region (Nodes.flat none (.op (some 4) (.move (.c (.int .i64 0))) 0
  .nil)) false)
 (.seq (.region (Nodes.flat none (.op (some 5) (.move (.t 0)) 0
  (.op (some 6) (.move (.t 1)) 0
  (.op (some 7) (.bin .add (.t 5) (.t 6)) 0
  (.op (some 4) (.move (.t 7)) 0
  .nil))))) false)
 .ret)),
 [.tmp 4]⟩
theorem b91 : fnOf Go.Proofs.Try.prog (owOf []) 91 = some c91 := by kernel_rfl

/-- bywash/flat.Sub$1 -/
def c92 : RFn := ⟨(.seq (.region (Nodes.flat none (.op (some 4) (.move (.c (.int .i64 0))) 0
  .nil)) false)
 (.seq (.region (Nodes.flat none (.op (some 5) (.move (.t 0)) 0
  (.op (some 6) (.move (.t 1)) 0
  (.op (some 7) (.bin .sub (.t 5) (.t 6)) 0
  (.op (some 4) (.move (.t 7)) 0
  .nil))))) false)
 .ret)),
 [.tmp 4]⟩
theorem b92 : fnOf Go.Proofs.Try.prog (owOf []) 92 = some c92 := by kernel_rfl

/-- bywash/flat.Mul$1 -/
def c93 : RFn := ⟨(.seq (.region (Nodes.flat none (.op (some 4) (.move (.c (.int .i64 0))) 0
  .nil)) false)
 (.seq (.region (Nodes.flat none (.op (some 5) (.move (.t 0)) 0
  (.op (some 6) (.move (.t 1)) 0
  (.op (some 7) (.bin .mul (.t 5) (.t 6)) 0
  (.op (some 4) (.move (.t 7)) 0
  .nil))))) false)
 .ret)),
 [.tmp 4]⟩
theorem b93 : fnOf Go.Proofs.Try.prog (owOf []) 93 = some c93 := by kernel_rfl

/-- bywash/bywashref02.sane -/
def c94 : RFn := ⟨(.seq (.region (Nodes.flat none (.op (some 1) (.box (.t 0)) 0
  (.op (some 2) (.alloc (.agg [(.int .i64 0), (.int .i64 0)])) 0
  .nil))) false)
 (.seq (.seq (.region (Nodes.flat none (.op (some 3) (.load (some 2) (.t 1)) 0
  (.op (some 4) (.call 31 [(.t 3)]) 0
  (.op (some 5) (.un .not (.t 4)) 0
  .nil)))) false)
 (.cond (.t 5)
 (.seq (.region (Nodes.flat none (.op (some 6) (.build [(.int .i64 0), (.int .i64 0)] [(0, 1, (.c (.int .i64 2))), (1, 1, (.c (.int .i64 0)))]) 0
  (.op none (.store 2 (.t 2) (.t 6)) 0
  .nil))) false)
 .ret)
 .skip))
 (.seq (.region (Nodes.flat none (.op (some 7) (.load (some 2) (.t 1)) 0
  (.op none (.store 2 (.t 2) (.t 7)) 0
  .nil))) false)
 .ret))),
 [.cell (some 2) 2]⟩
theorem b94 : fnOf Go.Proofs.Try.prog (owOf []) 94 = some c94 := by kernel_rfl

/-- bywash/bywashref02.made -/
def c95 : RFn := ⟨(.seq (.region (Nodes.flat none (.op (some 4) (.alloc (.agg [(.int .i64 0), (.int .i64 0)])) 0
  .nil)) false)
 (.seq (.seq (.region (Nodes.flat none (.op (some 5) (.move (.t 0)) 0
  (.op (some 6) (.bin .neq (.t 5) (.c (.int .i64 1))) 0
  .nil))) false)
 (.cond (.t 6)
 (.seq (.region (Nodes.flat none (.op (some 7) (.move (.t 0)) 0
  (.op (some 8) (.build [(.int .i64 0), (.int .i64 0)] [(0, 1, (.t 7)), (1, 1, (.c (.int .i64 0)))]) 0
  (.op none (.store 2 (.t 4) (.t 8)) 0
  .nil)))) false)
 .ret)
 .skip))
 (.seq (.region (Nodes.flat none (.op (some 9) (.move (.t 1)) 0
  (.op (some 10) (.call 37 [(.t 9)]) 0
  (.op none (.store 2 (.t 4) (.t 10)) 0
  .nil)))) false)
 .ret))),
 [.cell (some 2) 4]⟩
theorem b95 : fnOf Go.Proofs.Try.prog (owOf []) 95 = some c95 := by kernel_rfl

/-- bywash/bywashref02.kind -/
def c96 : RFn := ⟨(.seq (.region (Nodes.flat none (.op (some 2) (.box (.t 0)) 0
  (.op (some 3) (.box (.t 1)) 0
  (.op (some 4) (.move (.c (.int .i64 0))) 0
  .nil)))) false)
 (.seq (.seq (.region (Nodes.flat none (.op (some 5) (.fieldAddr 0 (.t 2)) 0
  (.op (some 6) (.load none (.t 5)) 0
  (.op (some 7) (.bin .eql (.t 6) (.c (.int .i64 0))) 0
  (.op (some 8) (.move (.t 7)) 0
  (.grd 8 false
  (.op (some 9) (.fieldAddr 0 (.t 3)) 0
  (.op (some 10) (.load none (.t 9)) 0
  (.op (some 11) (.bin .eql (.t 10) (.c (.int .i64 0))) 0
  .nil)))
  (.op (some 12) (.pick (.t 8) (.c (.bool true)) (.t 11)) 0
  .nil))))))) false)
 (.cond (.t 12)
 (.seq (.region (Nodes.flat none (.op (some 4) (.move (.c (.int .i64 0))) 0
  .nil)) false)
 .ret)
 .skip))
 (.seq (.region (Nodes.flat none (.op (some 13) (.fieldAddr 0 (.t 2)) 0
  (.op (some 14) (.load none (.t 13)) 0
  (.op (some 15) (.fieldAddr 0 (.t 3)) 0
  (.op (some 16) (.load none (.t 15)) 0
  (.op (some 17) (.mm true (.t 14) [(.t 16)]) 0
  (.op (some 4) (.move (.t 17)) 0
  .nil))))))) false)
 .ret))),
 [.tmp 4]⟩
theorem b96 : fnOf Go.Proofs.Try.prog (owOf []) 96 = some c96 := by kernel_rfl

end Go.Vm
