/- Laid. -/
import Derived.Test.YtlcbceneacnaiaaDoorVmThree
import Derived.KernelRfl
import Derived.Test.YtlcbceneacnaiaaDoorProg
/- Code. -/
set_option maxRecDepth 100000
set_option linter.unusedSimpArgs false
set_option linter.unusedVariables false
namespace Go.Vm
open Go

/-- bywash/instr.Def -/
def c13 : RFn := ⟨(.seq (.region (Nodes.flat none (.op (some 1) (.box (.t 0)) 0
  (.op (some 2) (.move (.c (.int .i64 0))) 0
  .nil))) false)
 (.seq (.seq (.region (Nodes.flat none (.op (some 3) (.load (some 11) (.t 1)) 0
  (.op (some 4) (.call 33 [(.t 3), (.c (.str ⟨#[100]⟩))]) 0
  (.op (some 5) (.un .not (.t 4)) 0
  (.op (some 6) (.move (.t 5)) 0
  (.grd 6 false
  (.op (some 7) (.load (some 11) (.t 1)) 0
  (.op (some 8) (.call 16 [(.t 7)]) 0
  (.op (some 9) (.un .not (.t 8)) 0
  .nil)))
  (.op (some 10) (.pick (.t 6) (.c (.bool true)) (.t 9)) 0
  .nil))))))) false)
 (.cond (.t 10)
 (.seq (.region (Nodes.flat none (.op (some 2) (.move (.c (.int .i64 (-1)))) 0
  .nil)) false)
 .ret)
 .skip))
 (.seq (.region (Nodes.flat none (.op (some 11) (.fieldAddr 2 (.t 1)) 0
  (.op (some 12) (.load none (.t 11)) 0
  (.op (some 2) (.move (.t 12)) 0
  .nil)))) false)
 .ret))),
 [.tmp 2]⟩
theorem b13 : fnOf Go.Proofs.Tryd.prog (owOf []) 13 = some c13 := by kernel_rfl

/-- bywash/instr.Form -/
def c16 : RFn := ⟨(.seq (.region (Nodes.flat none (.op (some 1) (.box (.t 0)) 0
  (.op (some 2) (.move (.c (.bool false))) 0
  .nil))) false)
 (.seq (.seq (.region (Nodes.flat none (.op (some 4) (.fieldAddr 1 (.t 1)) 0
  (.op (some 5) (.load none (.t 4)) 0
  (.op (some 6) (.call 23 [(.t 5)]) 0
  (.op (some 7) (.bin .eql (.t 6) (.c (.str ⟨#[]⟩))) 0
  (.op (some 8) (.move (.t 7)) 0
  (.grd 8 false
  (.op (some 9) (.fieldAddr 0 (.t 1)) 0
  (.op (some 10) (.load none (.t 9)) 0
  (.op (some 11) (.bin .lss (.t 10) (.c (.int .i64 0))) 0
  .nil)))
  (.op (some 12) (.pick (.t 8) (.c (.bool true)) (.t 11)) 0
  (.op (some 13) (.move (.t 12)) 0
  (.grd 13 false
  (.op (some 14) (.fieldAddr 0 (.t 1)) 0
  (.op (some 15) (.load none (.t 14)) 0
  (.op (some 16) (.bin .geq (.t 15) (.c (.int .i64 96))) 0
  .nil)))
  (.op (some 17) (.pick (.t 13) (.c (.bool true)) (.t 16)) 0
  (.op (some 18) (.move (.t 17)) 0
  (.grd 18 false
  (.op (some 19) (.fieldAddr 7 (.t 1)) 0
  (.op (some 20) (.load none (.t 19)) 0
  (.op (some 21) (.bin .lss (.t 20) (.c (.int .i64 0))) 0
  .nil)))
  (.op (some 22) (.pick (.t 18) (.c (.bool true)) (.t 21)) 0
  (.op (some 23) (.move (.t 22)) 0
  (.grd 23 false
  (.op (some 24) (.fieldAddr 7 (.t 1)) 0
  (.op (some 25) (.load none (.t 24)) 0
  (.op (some 26) (.bin .gtr (.t 25) (.c (.int .i64 3))) 0
  .nil)))
  (.op (some 27) (.pick (.t 23) (.c (.bool true)) (.t 26)) 0
  (.op (some 28) (.move (.t 27)) 0
  (.grd 28 false
  (.op (some 29) (.fieldAddr 5 (.t 1)) 0
  (.op (some 30) (.load none (.t 29)) 0
  (.op (some 31) (.bin .lss (.t 30) (.c (.int .i64 (-2147483648)))) 0
  .nil)))
  (.op (some 32) (.pick (.t 28) (.c (.bool true)) (.t 31)) 0
  (.op (some 33) (.move (.t 32)) 0
  (.grd 33 false
  (.op (some 34) (.fieldAddr 5 (.t 1)) 0
  (.op (some 35) (.load none (.t 34)) 0
  (.op (some 36) (.bin .gtr (.t 35) (.c (.int .i64 2147483647))) 0
  .nil)))
  (.op (some 37) (.pick (.t 33) (.c (.bool true)) (.t 36)) 0
  .nil))))))))))))))))))))))) false)
 (.cond (.t 37)
 (.seq (.region (Nodes.flat none (.op (some 2) (.move (.c (.bool false))) 0
  .nil)) false)
 .ret)
 .skip))
 (.seq (.region (Nodes.flat none (.op (some 38) (.fieldAddr 2 (.t 1)) 0
  (.op (some 39) (.load none (.t 38)) 1
  (.op (some 40) (.fieldAddr 3 (.t 1)) 0
  (.op (some 41) (.load none (.t 40)) 4
  (.op (some 42) (.fieldAddr 4 (.t 1)) 0
  (.op (some 43) (.load none (.t 42)) 16
  (.op (some 44) (.fieldAddr 6 (.t 1)) 0
  (.op (some 45) (.load none (.t 44)) 64
  (.op (some 46) (.fieldAddr 8 (.t 1)) 0
  (.op (some 47) (.prim (.sliceArr 3 false false false) [(.t 46)]) 256
  (.op (some 48) (.call 42 [(.t 47)]) 768
  (.op (some 49) (.mm false (.t 39) [(.t 41), (.t 43), (.t 45), (.t 48)]) 2047
  (.op (some 3) (.move (.t 49)) 4095
  .nil)))))))))))))) true)
 (.seq (.region (Nodes.flat none (.op (some 50) (.move (.t 3)) 0
  (.op (some 51) (.bin .geq (.t 50) (.c (.int .i64 0))) 0
  (.op (some 52) (.move (.t 51)) 0
  (.grd 52 true
  (.op (some 53) (.load (some 11) (.t 1)) 0
  (.op (some 54) (.call 43 [(.t 53)]) 0
  (.op (some 55) (.build [(.int .i64 0), (.int .i64 0), (.int .i64 0), (.int .i64 0), (.int .i64 0), (.int .i64 0), (.int .i64 0), (.int .i64 0), (.int .i64 0), (.int .i64 0), (.int .i64 0)] []) 0
  (.op (some 56) (.eqs false [(0, 1), (1, 1), (2, 1), (3, 1), (4, 1), (5, 1), (6, 1), (7, 1), (8, 1), (9, 1), (10, 1)] (.t 54) (.t 55)) 0
  .nil))))
  (.op (some 57) (.pick (.t 52) (.t 56) (.c (.bool false))) 0
  (.op (some 2) (.move (.t 57)) 0
  .nil))))))) false)
 .ret)))),
 [.tmp 2]⟩
theorem b16 : fnOf Go.Proofs.Tryd.prog (owOf []) 16 = some c16 := by kernel_rfl

/-- slices.Min[[]int,int] -/
def c42 : RFn := ⟨(.seq (.region (Nodes.flat none (.op (some 2) (.move (.c (.int .i64 0))) 0
  .nil)) false)
 (.seq (.seq (.region (Nodes.flat none (.op (some 5) (.move (.t 0)) 0
  (.op (some 6) (.len false (.t 5)) 0
  (.op (some 7) (.bin .lss (.t 6) (.c (.int .i64 1))) 0
  .nil)))) false)
 (.cond (.t 7)
 (.region (Nodes.flat none (.op (some 8) (.nope) 0
  (.op none (.nope) 0
  .nil))) false)
 .skip))
 (.seq (.region (Nodes.flat none (.op (some 9) (.move (.t 0)) 0
  (.op (some 10) (.idxAddr 1 (.t 9) (.c (.int .i64 0))) 0
  (.op (some 11) (.load none (.t 10)) 0
  (.op (some 3) (.move (.t 11)) 0
  .nil))))) false)
 (.seq (.seq (.region (Nodes.flat none (.op (some 4) (.move (.c (.int .i64 1))) 0
  .nil)) false)
 (.block 0 (.loop (.seq (.seq (.region (Nodes.flat none (.op (some 12) (.move (.t 4)) 0
  (.op (some 13) (.move (.t 0)) 0
  (.op (some 14) (.len false (.t 13)) 0
  (.op (some 15) (.bin .lss (.t 12) (.t 14)) 0
  .nil))))) false)
 (.cond (.t 15)
 .skip
 (.exit 0)))
 (.seq (.block 1 (.region (Nodes.flat none (.op (some 18) (.move (.t 3)) 0
  (.op (some 19) (.move (.t 0)) 0
  (.op (some 20) (.move (.t 4)) 0
  (.op (some 21) (.idxAddr 1 (.t 19) (.t 20)) 0
  (.op (some 22) (.load none (.t 21)) 0
  (.op (some 23) (.mm false (.t 18) [(.t 22)]) 0
  (.op (some 3) (.move (.t 23)) 0
  .nil)))))))) false))
 (.region (Nodes.flat none (.op (some 16) (.move (.t 4)) 0
  (.op (some 17) (.bin .add (.t 16) (.c (.int .i64 1))) 0
  (.op (some 4) (.move (.t 17)) 0
  .nil)))) false))))))
 (.seq (.region (Nodes.flat none (.op (some 24) (.move (.t 3)) 0
  (.op (some 2) (.move (.t 24)) 0
  .nil))) false)
 .ret))))),
 [.tmp 2]⟩
theorem b42 : fnOf Go.Proofs.Tryd.prog (owOf []) 42 = some c42 := by kernel_rfl

/-- bywash/instr.bare -/
def c43 : RFn := ⟨(.seq (.region (Nodes.flat none (.op (some 1) (.box (.t 0)) 0
  (.op (some 2) (.alloc (.agg [(.int .i64 0), (.int .i64 0), (.int .i64 0), (.int .i64 0), (.int .i64 0), (.int .i64 0), (.int .i64 0), (.int .i64 0), (.int .i64 0), (.int .i64 0), (.int .i64 0)])) 0
  .nil))) false)
 (.seq (.region (Nodes.flat none (.op (some 4) (.load (some 11) (.t 1)) 0
  (.op (some 5) (.call 62 [(.t 4)]) 0
  (.op (some 3) (.alloc (.agg [(.int .i64 0), (.int .i64 0), (.int .i64 0), (.int .i64 0), (.int .i64 0), (.int .i64 0), (.int .i64 0), (.int .i64 0), (.int .i64 0), (.int .i64 0), (.int .i64 0)])) 0
  (.op none (.store 11 (.t 3) (.t 5)) 0
  .nil))))) false)
 (.seq (.seq (.region (Nodes.flat none (.op (some 6) (.load (some 11) (.t 1)) 0
  (.op (some 7) (.call 33 [(.t 6), (.c (.str ⟨#[100]⟩))]) 0
  .nil))) false)
 (.cond (.t 7)
 (.region (Nodes.flat none (.op (some 8) (.fieldAddr 2 (.t 3)) 0
  (.op none (.store 1 (.t 8) (.c (.int .i64 0))) 0
  .nil))) false)
 .skip))
 (.seq (.seq (.region (Nodes.flat none (.op (some 9) (.load (some 11) (.t 1)) 0
  (.op (some 10) (.call 33 [(.t 9), (.c (.str ⟨#[97]⟩))]) 0
  .nil))) false)
 (.cond (.t 10)
 (.region (Nodes.flat none (.op (some 11) (.fieldAddr 3 (.t 3)) 0
  (.op none (.store 1 (.t 11) (.c (.int .i64 0))) 0
  .nil))) false)
 .skip))
 (.seq (.seq (.region (Nodes.flat none (.op (some 12) (.load (some 11) (.t 1)) 0
  (.op (some 13) (.call 33 [(.t 12), (.c (.str ⟨#[98]⟩))]) 0
  .nil))) false)
 (.cond (.t 13)
 (.region (Nodes.flat none (.op (some 14) (.fieldAddr 4 (.t 3)) 0
  (.op none (.store 1 (.t 14) (.c (.int .i64 0))) 0
  .nil))) false)
 .skip))
 (.seq (.seq (.region (Nodes.flat none (.op (some 15) (.load (some 11) (.t 1)) 0
  (.op (some 16) (.call 33 [(.t 15), (.c (.str ⟨#[99]⟩))]) 0
  .nil))) false)
 (.cond (.t 16)
 (.region (Nodes.flat none (.op (some 17) (.fieldAddr 5 (.t 3)) 0
  (.op none (.store 1 (.t 17) (.c (.int .i64 0))) 0
  .nil))) false)
 .skip))
 (.seq (.seq (.region (Nodes.flat none (.op (some 18) (.load (some 11) (.t 1)) 0
  (.op (some 19) (.call 33 [(.t 18), (.c (.str ⟨#[102]⟩))]) 0
  .nil))) false)
 (.cond (.t 19)
 (.seq (.region (Nodes.flat none (.op (some 20) (.fieldAddr 6 (.t 3)) 0
  (.op none (.store 1 (.t 20) (.c (.int .i64 0))) 0
  .nil))) false)
 (.seq (.region (Nodes.flat none (.op (some 21) (.fieldAddr 8 (.t 3)) 0
  (.op (some 22) (.fieldAddr 7 (.t 1)) 0
  (.op (some 23) (.load none (.t 22)) 0
  (.op (some 24) (.mm false (.t 23) [(.c (.int .i64 3))]) 0
  (.op (some 25) (.mm true (.c (.int .i64 0)) [(.t 24)]) 0
  (.op (some 26) (.prim (.sliceArr 3 false true false) [(.t 21), (.t 25)]) 0
  (.op none (.eprim (.clear 1 (.int .i64 0)) [(.t 26)]) 0
  .nil)))))))) false)
 (.region (Nodes.flat none (.op (some 27) (.fieldAddr 7 (.t 3)) 0
  (.op none (.store 1 (.t 27) (.c (.int .i64 0))) 0
  .nil))) false)))
 .skip))
 (.seq (.region (Nodes.flat none (.op (some 28) (.load (some 11) (.t 3)) 0
  (.op none (.store 11 (.t 2) (.t 28)) 0
  .nil))) false)
 .ret)))))))),
 [.cell (some 11) 2]⟩
theorem b43 : fnOf Go.Proofs.Tryd.prog (owOf []) 43 = some c43 := by kernel_rfl

end Go.Vm
