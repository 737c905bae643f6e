/- Code. -/
import Derived.Test.YtjegabeechopdaaVmV
import Derived.KernelRfl
import Derived.Test.YtjegabeechopdaaProg
set_option maxRecDepth 100000
set_option linter.unusedSimpArgs false
set_option linter.unusedVariables false
namespace Go.Vm
open Go

/-- bywash/flat.Join -/
def c22 : RFn := ⟨(.seq (.region [⟨(some 2), .box (.t 0), none, 0⟩,
  ⟨(some 3), .box (.t 1), none, 0⟩,
  ⟨(some 4), .alloc (.agg [(.int .i64 0), (.int .i64 0)]), none, 0⟩] false)
 (.seq (.region [⟨(some 5), .load (some 2) (.t 2), none, 0⟩,
  ⟨(some 6), .call 89 [(.t 5)], none, 1⟩,
  ⟨(some 7), .load (some 2) (.t 3), none, 0⟩,
  ⟨(some 8), .call 89 [(.t 7)], none, 7⟩,
  ⟨none, .store 2 (.t 2) (.t 6), none, 15⟩,
  ⟨none, .store 2 (.t 3) (.t 8), none, 31⟩] true)
 (.seq (.block 0 (.seq (.region [⟨(some 10), .fieldAddr 0 (.t 2), none, 0⟩,
  ⟨(some 11), .load none (.t 10), none, 0⟩,
  ⟨(some 12), .bin .eql (.t 11) (.c (.int .i64 0)), none, 0⟩,
  ⟨(some 13), .move (.t 12), none, 0⟩,
  ⟨(some 14), .load (some 2) (.t 2), (some (13, false)), 0⟩,
  ⟨(some 15), .load (some 2) (.t 3), (some (13, false)), 0⟩,
  ⟨(some 16), .eqs false [(0, 1), (1, 1)] (.t 14) (.t 15), (some (13, false)), 0⟩,
  ⟨(some 17), .pick (.t 13) (.c (.bool true)) (.t 16), none, 0⟩,
  ⟨(some 9), .move (.t 17), none, 0⟩] false)
 (.cond (.t 9)
 (.seq (.region [⟨(some 18), .load (some 2) (.t 3), none, 0⟩,
  ⟨none, .store 2 (.t 4) (.t 18), none, 0⟩] false)
 .ret)
 (.seq (.region [⟨(some 20), .fieldAddr 0 (.t 3), none, 0⟩,
  ⟨(some 21), .load none (.t 20), none, 0⟩,
  ⟨(some 22), .bin .eql (.t 21) (.c (.int .i64 0)), none, 0⟩,
  ⟨(some 19), .move (.t 22), none, 0⟩] false)
 (.cond (.t 19)
 (.seq (.region [⟨(some 23), .load (some 2) (.t 2), none, 0⟩,
  ⟨none, .store 2 (.t 4) (.t 23), none, 0⟩] false)
 .ret)
 .skip)))))
 (.seq (.region [⟨(some 24), .build [(.int .i64 0), (.int .i64 0)] [(0, 1, (.c (.int .i64 2)))], none, 0⟩,
  ⟨none, .store 2 (.t 4) (.t 24), none, 0⟩] false)
 .ret)))),
 [.cell (some 2) 4]⟩
theorem b22 : fnOf Go.Proofs.Try.prog (fun _ _ => true) 22 = some c22 := by kernel_rfl

/-- bywash/flat.Leq -/
def c23 : RFn := ⟨(.seq (.region [⟨(some 2), .box (.t 0), none, 0⟩,
  ⟨(some 3), .box (.t 1), none, 0⟩,
  ⟨(some 4), .move (.c (.bool false)), none, 0⟩] false)
 (.seq (.region [⟨(some 5), .load (some 2) (.t 2), none, 0⟩,
  ⟨(some 6), .load (some 2) (.t 3), none, 0⟩,
  ⟨(some 7), .call 22 [(.t 5), (.t 6)], none, 3⟩,
  ⟨(some 8), .load (some 2) (.t 3), none, 0⟩,
  ⟨(some 9), .call 89 [(.t 8)], none, 15⟩,
  ⟨(some 10), .eqs false [(0, 1), (1, 1)] (.t 7) (.t 9), none, 31⟩,
  ⟨(some 4), .move (.t 10), none, 63⟩] true)
 .ret)),
 [.tmp 4]⟩
theorem b23 : fnOf Go.Proofs.Try.prog (fun _ _ => true) 23 = some c23 := by kernel_rfl

/-- bywash/flat.Sane -/
def c24 : RFn := ⟨(.seq (.region [⟨(some 1), .box (.t 0), none, 0⟩,
  ⟨(some 2), .move (.c (.bool false)), none, 0⟩] false)
 (.seq (.seq (.region [⟨(some 3), .fieldAddr 0 (.t 1), none, 0⟩,
  ⟨(some 4), .load none (.t 3), none, 0⟩] false)
 (.block 0 (.seq (.region [⟨(some 6), .bin .eql (.t 4) (.c (.int .i64 1)), none, 0⟩,
  ⟨(some 5), .move (.t 6), none, 0⟩] false)
 (.cond (.t 5)
 (.seq (.region [⟨(some 7), .fieldAddr 1 (.t 1), none, 0⟩,
  ⟨(some 8), .load none (.t 7), none, 0⟩,
  ⟨(some 9), .bin .geq (.t 8) (.c (.int .i64 (-2147483648))), none, 0⟩,
  ⟨(some 10), .move (.t 9), none, 0⟩,
  ⟨(some 11), .fieldAddr 1 (.t 1), (some (10, true)), 0⟩,
  ⟨(some 12), .load none (.t 11), (some (10, true)), 0⟩,
  ⟨(some 13), .bin .leq (.t 12) (.c (.int .i64 2147483647)), (some (10, true)), 0⟩,
  ⟨(some 14), .pick (.t 10) (.t 13) (.c (.bool false)), none, 0⟩,
  ⟨(some 2), .move (.t 14), none, 0⟩] false)
 .ret)
 (.seq (.seq (.region [⟨(some 16), .bin .eql (.t 4) (.c (.int .i64 0)), none, 0⟩,
  ⟨(some 15), .move (.t 16), none, 0⟩] false)
 (.cond (.t 15)
 .skip
 (.region [⟨(some 17), .bin .eql (.t 4) (.c (.int .i64 2)), none, 0⟩,
  ⟨(some 15), .move (.t 17), none, 0⟩] false)))
 (.cond (.t 15)
 (.seq (.region [⟨(some 18), .fieldAddr 1 (.t 1), none, 0⟩,
  ⟨(some 19), .load none (.t 18), none, 0⟩,
  ⟨(some 20), .bin .eql (.t 19) (.c (.int .i64 0)), none, 0⟩,
  ⟨(some 2), .move (.t 20), none, 0⟩] false)
 .ret)
 .skip))))))
 (.seq (.region [⟨(some 2), .move (.c (.bool false)), none, 0⟩] false)
 .ret))),
 [.tmp 2]⟩
theorem b24 : fnOf Go.Proofs.Try.prog (fun _ _ => true) 24 = some c24 := by kernel_rfl

/-- bywash/flat.Height -/
def c25 : RFn := ⟨(.seq (.region [⟨(some 1), .box (.t 0), none, 0⟩,
  ⟨(some 2), .move (.c (.int .i64 0)), none, 0⟩] false)
 (.seq (.region [⟨(some 3), .load (some 2) (.t 1), none, 0⟩,
  ⟨(some 4), .call 89 [(.t 3)], none, 0⟩,
  ⟨(some 5), .field 0 none (.t 4), none, 0⟩,
  ⟨(some 2), .move (.t 5), none, 0⟩] false)
 .ret)),
 [.tmp 2]⟩
theorem b25 : fnOf Go.Proofs.Try.prog (fun _ _ => true) 25 = some c25 := by kernel_rfl

/-- bywash/flat.Of -/
def c26 : RFn := ⟨(.seq (.region [⟨(some 2), .alloc (.agg [(.int .i64 0), (.int .i64 0)]), none, 0⟩] false)
 (.seq (.region [⟨(some 3), .move (.t 0), none, 0⟩,
  ⟨(some 4), .call 35 [(.t 3)], none, 0⟩,
  ⟨(some 5), .build [(.int .i64 0), (.int .i64 0)] [(0, 1, (.c (.int .i64 1))), (1, 1, (.t 4))], none, 0⟩,
  ⟨none, .store 2 (.t 2) (.t 5), none, 0⟩] false)
 .ret)),
 [.cell (some 2) 2]⟩
theorem b26 : fnOf Go.Proofs.Try.prog (fun _ _ => true) 26 = some c26 := by kernel_rfl

/-- bywash/flat.Add -/
def c27 : RFn := ⟨(.seq (.region [⟨(some 2), .box (.t 0), none, 0⟩,
  ⟨(some 3), .box (.t 1), none, 0⟩,
  ⟨(some 4), .alloc (.agg [(.int .i64 0), (.int .i64 0)]), none, 0⟩] false)
 (.seq (.region [⟨(some 5), .load (some 2) (.t 2), none, 0⟩,
  ⟨(some 6), .load (some 2) (.t 3), none, 0⟩,
  ⟨(some 7), .call 90 [(.t 5), (.t 6), (.c (.fn 91 []))], none, 0⟩,
  ⟨none, .store 2 (.t 4) (.t 7), none, 0⟩] false)
 .ret)),
 [.cell (some 2) 4]⟩
theorem b27 : fnOf Go.Proofs.Try.prog (fun _ _ => true) 27 = some c27 := by kernel_rfl

/-- bywash/flat.Sub -/
def c28 : RFn := ⟨(.seq (.region [⟨(some 2), .box (.t 0), none, 0⟩,
  ⟨(some 3), .box (.t 1), none, 0⟩,
  ⟨(some 4), .alloc (.agg [(.int .i64 0), (.int .i64 0)]), none, 0⟩] false)
 (.seq (.region [⟨(some 5), .load (some 2) (.t 2), none, 0⟩,
  ⟨(some 6), .load (some 2) (.t 3), none, 0⟩,
  ⟨(some 7), .call 90 [(.t 5), (.t 6), (.c (.fn 92 []))], none, 0⟩,
  ⟨none, .store 2 (.t 4) (.t 7), none, 0⟩] false)
 .ret)),
 [.cell (some 2) 4]⟩
theorem b28 : fnOf Go.Proofs.Try.prog (fun _ _ => true) 28 = some c28 := by kernel_rfl

/-- bywash/flat.Neg -/
def c29 : RFn := ⟨(.seq (.region [⟨(some 1), .box (.t 0), none, 0⟩,
  ⟨(some 2), .alloc (.agg [(.int .i64 0), (.int .i64 0)]), none, 0⟩] false)
 (.seq (.region [⟨(some 3), .call 26 [(.c (.int .i64 0))], none, 0⟩,
  ⟨(some 4), .load (some 2) (.t 1), none, 0⟩,
  ⟨(some 5), .call 28 [(.t 3), (.t 4)], none, 3⟩,
  ⟨none, .store 2 (.t 2) (.t 5), none, 7⟩] true)
 .ret)),
 [.cell (some 2) 2]⟩
theorem b29 : fnOf Go.Proofs.Try.prog (fun _ _ => true) 29 = some c29 := by kernel_rfl

/-- bywash/flat.Mul -/
def c30 : RFn := ⟨(.seq (.region [⟨(some 2), .box (.t 0), none, 0⟩,
  ⟨(some 3), .box (.t 1), none, 0⟩,
  ⟨(some 4), .alloc (.agg [(.int .i64 0), (.int .i64 0)]), none, 0⟩] false)
 (.seq (.region [⟨(some 5), .load (some 2) (.t 2), none, 0⟩,
  ⟨(some 6), .load (some 2) (.t 3), none, 0⟩,
  ⟨(some 7), .call 90 [(.t 5), (.t 6), (.c (.fn 93 []))], none, 0⟩,
  ⟨none, .store 2 (.t 4) (.t 7), none, 0⟩] false)
 .ret)),
 [.cell (some 2) 4]⟩
theorem b30 : fnOf Go.Proofs.Try.prog (fun _ _ => true) 30 = some c30 := by kernel_rfl

/-- bywash/bywashref02.Sane -/
def c31 : RFn := ⟨(.seq (.region [⟨(some 1), .box (.t 0), none, 0⟩,
  ⟨(some 2), .move (.c (.bool false)), none, 0⟩] false)
 (.seq (.seq (.region [⟨(some 3), .fieldAddr 0 (.t 1), none, 0⟩,
  ⟨(some 4), .load none (.t 3), none, 0⟩,
  ⟨(some 5), .bin .eql (.t 4) (.c (.int .i64 1)), none, 0⟩] false)
 (.cond (.t 5)
 (.seq (.region [⟨(some 6), .fieldAddr 1 (.t 1), none, 0⟩,
  ⟨(some 7), .load none (.t 6), none, 0⟩,
  ⟨(some 8), .bin .geq (.t 7) (.c (.int .i64 (-2147483648))), none, 0⟩,
  ⟨(some 9), .move (.t 8), none, 0⟩,
  ⟨(some 10), .fieldAddr 1 (.t 1), (some (9, true)), 0⟩,
  ⟨(some 11), .load none (.t 10), (some (9, true)), 0⟩,
  ⟨(some 12), .bin .leq (.t 11) (.c (.int .i64 2147483647)), (some (9, true)), 0⟩,
  ⟨(some 13), .pick (.t 9) (.t 12) (.c (.bool false)), none, 0⟩,
  ⟨(some 2), .move (.t 13), none, 0⟩] false)
 .ret)
 .skip))
 (.seq (.region [⟨(some 14), .fieldAddr 0 (.t 1), none, 0⟩,
  ⟨(some 15), .load none (.t 14), none, 0⟩,
  ⟨(some 16), .bin .eql (.t 15) (.c (.int .i64 0)), none, 0⟩,
  ⟨(some 17), .move (.t 16), none, 0⟩,
  ⟨(some 18), .fieldAddr 0 (.t 1), (some (17, false)), 0⟩,
  ⟨(some 19), .load none (.t 18), (some (17, false)), 0⟩,
  ⟨(some 20), .bin .eql (.t 19) (.c (.int .i64 2)), (some (17, false)), 0⟩,
  ⟨(some 21), .pick (.t 17) (.c (.bool true)) (.t 20), none, 0⟩,
  ⟨(some 22), .move (.t 21), none, 0⟩,
  ⟨(some 23), .fieldAddr 1 (.t 1), (some (22, true)), 0⟩,
  ⟨(some 24), .load none (.t 23), (some (22, true)), 0⟩,
  ⟨(some 25), .bin .eql (.t 24) (.c (.int .i64 0)), (some (22, true)), 0⟩,
  ⟨(some 26), .pick (.t 22) (.t 25) (.c (.bool false)), none, 0⟩,
  ⟨(some 2), .move (.t 26), none, 0⟩] false)
 .ret))),
 [.tmp 2]⟩
theorem b31 : fnOf Go.Proofs.Try.prog (fun _ _ => true) 31 = some c31 := by kernel_rfl

/-- bywash/bywashref02.Join -/
def c33 : RFn := ⟨(.seq (.region [⟨(some 2), .box (.t 0), none, 0⟩,
  ⟨(some 3), .box (.t 1), none, 0⟩,
  ⟨(some 4), .alloc (.agg [(.int .i64 0), (.int .i64 0)]), none, 0⟩] false)
 (.seq (.seq (.region [⟨(some 5), .load (some 2) (.t 2), none, 0⟩,
  ⟨(some 6), .load (some 2) (.t 3), none, 0⟩,
  ⟨(some 7), .call 34 [(.t 5), (.t 6)], none, 0⟩] false)
 (.cond (.t 7)
 (.seq (.region [⟨(some 8), .load (some 2) (.t 3), none, 0⟩,
  ⟨(some 9), .call 94 [(.t 8)], none, 0⟩,
  ⟨none, .store 2 (.t 4) (.t 9), none, 0⟩] false)
 .ret)
 .skip))
 (.seq (.seq (.region [⟨(some 10), .load (some 2) (.t 3), none, 0⟩,
  ⟨(some 11), .load (some 2) (.t 2), none, 0⟩,
  ⟨(some 12), .call 34 [(.t 10), (.t 11)], none, 0⟩] false)
 (.cond (.t 12)
 (.seq (.region [⟨(some 13), .load (some 2) (.t 2), none, 0⟩,
  ⟨(some 14), .call 94 [(.t 13)], none, 0⟩,
  ⟨none, .store 2 (.t 4) (.t 14), none, 0⟩] false)
 .ret)
 .skip))
 (.seq (.region [⟨(some 15), .build [(.int .i64 0), (.int .i64 0)] [(0, 1, (.c (.int .i64 2))), (1, 1, (.c (.int .i64 0)))], none, 0⟩,
  ⟨none, .store 2 (.t 4) (.t 15), none, 0⟩] false)
 .ret)))),
 [.cell (some 2) 4]⟩
theorem b33 : fnOf Go.Proofs.Try.prog (fun _ _ => true) 33 = some c33 := by kernel_rfl

/-- bywash/bywashref02.Leq -/
def c34 : RFn := ⟨(.seq (.region [⟨(some 2), .box (.t 0), none, 0⟩,
  ⟨(some 3), .box (.t 1), none, 0⟩,
  ⟨(some 4), .move (.c (.bool false)), none, 0⟩] false)
 (.seq (.region [⟨(some 5), .load (some 2) (.t 2), none, 0⟩,
  ⟨(some 6), .call 94 [(.t 5)], none, 0⟩,
  ⟨none, .store 2 (.t 2) (.t 6), none, 0⟩] false)
 (.seq (.region [⟨(some 7), .load (some 2) (.t 3), none, 0⟩,
  ⟨(some 8), .call 94 [(.t 7)], none, 0⟩,
  ⟨none, .store 2 (.t 3) (.t 8), none, 0⟩] false)
 (.seq (.region [⟨(some 9), .fieldAddr 0 (.t 2), none, 0⟩,
  ⟨(some 10), .load none (.t 9), none, 0⟩,
  ⟨(some 11), .bin .eql (.t 10) (.c (.int .i64 0)), none, 0⟩,
  ⟨(some 12), .move (.t 11), none, 0⟩,
  ⟨(some 13), .fieldAddr 0 (.t 3), (some (12, false)), 0⟩,
  ⟨(some 14), .load none (.t 13), (some (12, false)), 0⟩,
  ⟨(some 15), .bin .eql (.t 14) (.c (.int .i64 2)), (some (12, false)), 0⟩,
  ⟨(some 16), .pick (.t 12) (.c (.bool true)) (.t 15), none, 0⟩,
  ⟨(some 17), .move (.t 16), none, 0⟩,
  ⟨(some 18), .load (some 2) (.t 2), (some (17, false)), 0⟩,
  ⟨(some 19), .load (some 2) (.t 3), (some (17, false)), 0⟩,
  ⟨(some 20), .eqs false [(0, 1), (1, 1)] (.t 18) (.t 19), (some (17, false)), 0⟩,
  ⟨(some 21), .pick (.t 17) (.c (.bool true)) (.t 20), none, 0⟩,
  ⟨(some 4), .move (.t 21), none, 0⟩] false)
 .ret)))),
 [.tmp 4]⟩
theorem b34 : fnOf Go.Proofs.Try.prog (fun _ _ => true) 34 = some c34 := by kernel_rfl

/-- bywash/flat.Wrap -/
def c35 : RFn := ⟨(.seq (.region [⟨(some 2), .move (.c (.int .i64 0)), none, 0⟩] false)
 (.seq (.region [⟨(some 3), .move (.t 0), none, 0⟩,
  ⟨(some 4), .conv .i32 (.t 3), none, 0⟩,
  ⟨(some 5), .conv .i64 (.t 4), none, 0⟩,
  ⟨(some 2), .move (.t 5), none, 0⟩] false)
 .ret)),
 [.tmp 2]⟩
theorem b35 : fnOf Go.Proofs.Try.prog (fun _ _ => true) 35 = some c35 := by kernel_rfl

/-- bywash/bywashref02.Wrap -/
def c36 : RFn := ⟨(.seq (.region [⟨(some 2), .move (.c (.int .i64 0)), none, 0⟩] false)
 (.seq (.region [⟨(some 4), .move (.t 0), none, 0⟩,
  ⟨(some 5), .bin .rem (.t 4) (.c (.int .i64 4294967296)), none, 0⟩,
  ⟨(some 3), .move (.t 5), none, 0⟩] false)
 (.seq (.seq (.region [⟨(some 6), .move (.t 3), none, 0⟩,
  ⟨(some 7), .bin .lss (.t 6) (.c (.int .i64 0)), none, 0⟩] false)
 (.cond (.t 7)
 (.region [⟨(some 8), .move (.t 3), none, 0⟩,
  ⟨(some 9), .bin .add (.t 8) (.c (.int .i64 4294967296)), none, 0⟩,
  ⟨(some 3), .move (.t 9), none, 0⟩] false)
 .skip))
 (.seq (.seq (.region [⟨(some 10), .move (.t 3), none, 0⟩,
  ⟨(some 11), .bin .gtr (.t 10) (.c (.int .i64 2147483647)), none, 0⟩] false)
 (.cond (.t 11)
 (.region [⟨(some 12), .move (.t 3), none, 0⟩,
  ⟨(some 13), .bin .sub (.t 12) (.c (.int .i64 4294967296)), none, 0⟩,
  ⟨(some 3), .move (.t 13), none, 0⟩] false)
 .skip))
 (.seq (.region [⟨(some 14), .move (.t 3), none, 0⟩,
  ⟨(some 2), .move (.t 14), none, 0⟩] false)
 .ret))))),
 [.tmp 2]⟩
theorem b36 : fnOf Go.Proofs.Try.prog (fun _ _ => true) 36 = some c36 := by kernel_rfl

/-- bywash/bywashref02.Of -/
def c37 : RFn := ⟨(.seq (.region [⟨(some 2), .alloc (.agg [(.int .i64 0), (.int .i64 0)]), none, 0⟩] false)
 (.seq (.region [⟨(some 3), .move (.t 0), none, 0⟩,
  ⟨(some 4), .call 36 [(.t 3)], none, 0⟩,
  ⟨(some 5), .build [(.int .i64 0), (.int .i64 0)] [(0, 1, (.c (.int .i64 1))), (1, 1, (.t 4))], none, 0⟩,
  ⟨none, .store 2 (.t 2) (.t 5), none, 0⟩] false)
 .ret)),
 [.cell (some 2) 2]⟩
theorem b37 : fnOf Go.Proofs.Try.prog (fun _ _ => true) 37 = some c37 := by kernel_rfl

/-- bywash/bywashref02.Height -/
def c38 : RFn := ⟨(.seq (.region [⟨(some 1), .box (.t 0), none, 0⟩,
  ⟨(some 2), .move (.c (.int .i64 0)), none, 0⟩] false)
 (.seq (.region [⟨(some 3), .load (some 2) (.t 1), none, 0⟩,
  ⟨(some 4), .call 94 [(.t 3)], none, 0⟩,
  ⟨(some 5), .field 0 none (.t 4), none, 0⟩,
  ⟨(some 2), .move (.t 5), none, 0⟩] false)
 .ret)),
 [.tmp 2]⟩
theorem b38 : fnOf Go.Proofs.Try.prog (fun _ _ => true) 38 = some c38 := by kernel_rfl

/-- bywash/bywashref02.Neg -/
def c39 : RFn := ⟨(.seq (.region [⟨(some 1), .box (.t 0), none, 0⟩,
  ⟨(some 2), .alloc (.agg [(.int .i64 0), (.int .i64 0)]), none, 0⟩] false)
 (.seq (.region [⟨(some 3), .load (some 2) (.t 1), none, 0⟩,
  ⟨(some 4), .call 94 [(.t 3)], none, 0⟩,
  ⟨none, .store 2 (.t 1) (.t 4), none, 0⟩] false)
 (.seq (.region [⟨(some 5), .fieldAddr 0 (.t 1), none, 0⟩,
  ⟨(some 6), .load none (.t 5), none, 0⟩,
  ⟨(some 7), .fieldAddr 1 (.t 1), none, 0⟩,
  ⟨(some 8), .load none (.t 7), none, 0⟩,
  ⟨(some 9), .un .neg (.t 8), none, 0⟩,
  ⟨(some 10), .call 95 [(.t 6), (.t 9)], none, 0⟩,
  ⟨none, .store 2 (.t 2) (.t 10), none, 0⟩] false)
 .ret))),
 [.cell (some 2) 2]⟩
theorem b39 : fnOf Go.Proofs.Try.prog (fun _ _ => true) 39 = some c39 := by kernel_rfl

/-- bywash/bywashref02.Add -/
def c40 : RFn := ⟨(.seq (.region [⟨(some 2), .box (.t 0), none, 0⟩,
  ⟨(some 3), .box (.t 1), none, 0⟩,
  ⟨(some 4), .alloc (.agg [(.int .i64 0), (.int .i64 0)]), none, 0⟩] false)
 (.seq (.region [⟨(some 5), .load (some 2) (.t 2), none, 0⟩,
  ⟨(some 6), .call 94 [(.t 5)], none, 0⟩,
  ⟨none, .store 2 (.t 2) (.t 6), none, 0⟩] false)
 (.seq (.region [⟨(some 7), .load (some 2) (.t 3), none, 0⟩,
  ⟨(some 8), .call 94 [(.t 7)], none, 0⟩,
  ⟨none, .store 2 (.t 3) (.t 8), none, 0⟩] false)
 (.seq (.region [⟨(some 9), .load (some 2) (.t 2), none, 0⟩,
  ⟨(some 10), .load (some 2) (.t 3), none, 0⟩,
  ⟨(some 11), .call 96 [(.t 9), (.t 10)], none, 3⟩,
  ⟨(some 12), .fieldAddr 1 (.t 2), none, 0⟩,
  ⟨(some 13), .load none (.t 12), none, 8⟩,
  ⟨(some 14), .fieldAddr 1 (.t 3), none, 0⟩,
  ⟨(some 15), .load none (.t 14), none, 32⟩,
  ⟨(some 16), .bin .add (.t 13) (.t 15), none, 120⟩,
  ⟨(some 17), .call 95 [(.t 11), (.t 16)], none, 255⟩,
  ⟨none, .store 2 (.t 4) (.t 17), none, 511⟩] true)
 .ret)))),
 [.cell (some 2) 4]⟩
theorem b40 : fnOf Go.Proofs.Try.prog (fun _ _ => true) 40 = some c40 := by kernel_rfl

/-- bywash/bywashref02.Sub -/
def c41 : RFn := ⟨(.seq (.region [⟨(some 2), .box (.t 0), none, 0⟩,
  ⟨(some 3), .box (.t 1), none, 0⟩,
  ⟨(some 4), .alloc (.agg [(.int .i64 0), (.int .i64 0)]), none, 0⟩] false)
 (.seq (.region [⟨(some 5), .load (some 2) (.t 2), none, 0⟩,
  ⟨(some 6), .call 94 [(.t 5)], none, 0⟩,
  ⟨none, .store 2 (.t 2) (.t 6), none, 0⟩] false)
 (.seq (.region [⟨(some 7), .load (some 2) (.t 3), none, 0⟩,
  ⟨(some 8), .call 94 [(.t 7)], none, 0⟩,
  ⟨none, .store 2 (.t 3) (.t 8), none, 0⟩] false)
 (.seq (.region [⟨(some 9), .load (some 2) (.t 2), none, 0⟩,
  ⟨(some 10), .load (some 2) (.t 3), none, 0⟩,
  ⟨(some 11), .call 96 [(.t 9), (.t 10)], none, 3⟩,
  ⟨(some 12), .fieldAddr 1 (.t 2), none, 0⟩,
  ⟨(some 13), .load none (.t 12), none, 8⟩,
  ⟨(some 14), .fieldAddr 1 (.t 3), none, 0⟩,
  ⟨(some 15), .load none (.t 14), none, 32⟩,
  ⟨(some 16), .bin .sub (.t 13) (.t 15), none, 120⟩,
  ⟨(some 17), .call 95 [(.t 11), (.t 16)], none, 255⟩,
  ⟨none, .store 2 (.t 4) (.t 17), none, 511⟩] true)
 .ret)))),
 [.cell (some 2) 4]⟩
theorem b41 : fnOf Go.Proofs.Try.prog (fun _ _ => true) 41 = some c41 := by kernel_rfl

/-- bywash/bywashref02.Mul -/
def c42 : RFn := ⟨(.seq (.region [⟨(some 2), .box (.t 0), none, 0⟩,
  ⟨(some 3), .box (.t 1), none, 0⟩,
  ⟨(some 4), .alloc (.agg [(.int .i64 0), (.int .i64 0)]), none, 0⟩] false)
 (.seq (.region [⟨(some 5), .load (some 2) (.t 2), none, 0⟩,
  ⟨(some 6), .call 94 [(.t 5)], none, 0⟩,
  ⟨none, .store 2 (.t 2) (.t 6), none, 0⟩] false)
 (.seq (.region [⟨(some 7), .load (some 2) (.t 3), none, 0⟩,
  ⟨(some 8), .call 94 [(.t 7)], none, 0⟩,
  ⟨none, .store 2 (.t 3) (.t 8), none, 0⟩] false)
 (.seq (.region [⟨(some 9), .load (some 2) (.t 2), none, 0⟩,
  ⟨(some 10), .load (some 2) (.t 3), none, 0⟩,
  ⟨(some 11), .call 96 [(.t 9), (.t 10)], none, 3⟩,
  ⟨(some 12), .fieldAddr 1 (.t 2), none, 0⟩,
  ⟨(some 13), .load none (.t 12), none, 8⟩,
  ⟨(some 14), .fieldAddr 1 (.t 3), none, 0⟩,
  ⟨(some 15), .load none (.t 14), none, 32⟩,
  ⟨(some 16), .bin .mul (.t 13) (.t 15), none, 120⟩,
  ⟨(some 17), .call 95 [(.t 11), (.t 16)], none, 255⟩,
  ⟨none, .store 2 (.t 4) (.t 17), none, 511⟩] true)
 .ret)))),
 [.cell (some 2) 4]⟩
theorem b42 : fnOf Go.Proofs.Try.prog (fun _ _ => true) 42 = some c42 := by kernel_rfl

/-- bywash/flat.sane -/
def c89 : RFn := ⟨(.seq (.region [⟨(some 1), .box (.t 0), none, 0⟩,
  ⟨(some 2), .alloc (.agg [(.int .i64 0), (.int .i64 0)]), none, 0⟩] false)
 (.seq (.seq (.region [⟨(some 3), .load (some 2) (.t 1), none, 0⟩,
  ⟨(some 4), .call 24 [(.t 3)], none, 0⟩,
  ⟨(some 5), .un .not (.t 4), none, 0⟩] false)
 (.cond (.t 5)
 (.seq (.region [⟨(some 6), .build [(.int .i64 0), (.int .i64 0)] [(0, 1, (.c (.int .i64 2)))], none, 0⟩,
  ⟨none, .store 2 (.t 2) (.t 6), none, 0⟩] false)
 .ret)
 .skip))
 (.seq (.region [⟨(some 7), .load (some 2) (.t 1), none, 0⟩,
  ⟨none, .store 2 (.t 2) (.t 7), none, 0⟩] false)
 .ret))),
 [.cell (some 2) 2]⟩
theorem b89 : fnOf Go.Proofs.Try.prog (fun _ _ => true) 89 = some c89 := by kernel_rfl

/-- bywash/flat.each -/
def c90 : RFn := ⟨(.seq (.region [⟨(some 3), .box (.t 0), none, 0⟩,
  ⟨(some 4), .box (.t 1), none, 0⟩,
  ⟨(some 6), .alloc (.agg [(.int .i64 0), (.int .i64 0)]), none, 0⟩] false)
 (.seq (.region [⟨(some 7), .load (some 2) (.t 3), none, 0⟩,
  ⟨(some 8), .call 89 [(.t 7)], none, 1⟩,
  ⟨(some 9), .load (some 2) (.t 4), none, 0⟩,
  ⟨(some 10), .call 89 [(.t 9)], none, 7⟩,
  ⟨none, .store 2 (.t 3) (.t 8), none, 15⟩,
  ⟨none, .store 2 (.t 4) (.t 10), none, 31⟩] true)
 (.seq (.block 0 (.seq (.region [⟨(some 12), .fieldAddr 0 (.t 3), none, 0⟩,
  ⟨(some 13), .load none (.t 12), none, 0⟩,
  ⟨(some 14), .bin .eql (.t 13) (.c (.int .i64 0)), none, 0⟩,
  ⟨(some 15), .move (.t 14), none, 0⟩,
  ⟨(some 16), .fieldAddr 0 (.t 4), (some (15, false)), 0⟩,
  ⟨(some 17), .load none (.t 16), (some (15, false)), 0⟩,
  ⟨(some 18), .bin .eql (.t 17) (.c (.int .i64 0)), (some (15, false)), 0⟩,
  ⟨(some 19), .pick (.t 15) (.c (.bool true)) (.t 18), none, 0⟩,
  ⟨(some 11), .move (.t 19), none, 0⟩] false)
 (.cond (.t 11)
 (.seq (.region [⟨(some 20), .build [(.int .i64 0), (.int .i64 0)] [], none, 0⟩,
  ⟨none, .store 2 (.t 6) (.t 20), none, 0⟩] false)
 .ret)
 (.seq (.region [⟨(some 22), .fieldAddr 0 (.t 3), none, 0⟩,
  ⟨(some 23), .load none (.t 22), none, 0⟩,
  ⟨(some 24), .bin .eql (.t 23) (.c (.int .i64 2)), none, 0⟩,
  ⟨(some 25), .move (.t 24), none, 0⟩,
  ⟨(some 26), .fieldAddr 0 (.t 4), (some (25, false)), 0⟩,
  ⟨(some 27), .load none (.t 26), (some (25, false)), 0⟩,
  ⟨(some 28), .bin .eql (.t 27) (.c (.int .i64 2)), (some (25, false)), 0⟩,
  ⟨(some 29), .pick (.t 25) (.c (.bool true)) (.t 28), none, 0⟩,
  ⟨(some 21), .move (.t 29), none, 0⟩] false)
 (.cond (.t 21)
 (.seq (.region [⟨(some 30), .build [(.int .i64 0), (.int .i64 0)] [(0, 1, (.c (.int .i64 2)))], none, 0⟩,
  ⟨none, .store 2 (.t 6) (.t 30), none, 0⟩] false)
 .ret)
 .skip)))))
 (.seq (.region [⟨(some 31), .move (.t 2), none, 0⟩,
  ⟨(some 32), .fieldAddr 1 (.t 3), none, 0⟩,
  ⟨(some 33), .load none (.t 32), none, 0⟩,
  ⟨(some 34), .fieldAddr 1 (.t 4), none, 0⟩,
  ⟨(some 35), .load none (.t 34), none, 0⟩,
  ⟨(some 36), .callv (.t 31) [(.t 33), (.t 35)], none, 0⟩,
  ⟨(some 37), .call 26 [(.t 36)], none, 0⟩,
  ⟨none, .store 2 (.t 6) (.t 37), none, 0⟩] false)
 .ret)))),
 [.cell (some 2) 6]⟩
theorem b90 : fnOf Go.Proofs.Try.prog (fun _ _ => true) 90 = some c90 := by kernel_rfl

/-- bywash/flat.Add$1 -/
def c91 : RFn := ⟨(.seq (.region [⟨(some 4), .move (.c (.int .i64 0)), none, 0⟩] false)
 (.seq (.region [⟨(some 5), .move (.t 0), none, 0⟩,
  ⟨(some 6), .move (.t 1), none, 0⟩,
  ⟨(some 7), .bin .add (.t 5) (.t 6), none, 0⟩,
  ⟨(some 4), .move (.t 7), none, 0⟩] false)
 .ret)),
 [.tmp 4]⟩
theorem b91 : fnOf Go.Proofs.Try.prog (fun _ _ => true) 91 = some c91 := by kernel_rfl

/-- bywash/flat.Sub$1 -/
def c92 : RFn := ⟨(.seq (.region [⟨(some 4), .move (.c (.int .i64 0)), none, 0⟩] false)
 (.seq (.region [⟨(some 5), .move (.t 0), none, 0⟩,
  ⟨(some 6), .move (.t 1), none, 0⟩,
  ⟨(some 7), .bin .sub (.t 5) (.t 6), none, 0⟩,
  ⟨(some 4), .move (.t 7), none, 0⟩] false)
 .ret)),
 [.tmp 4]⟩
theorem b92 : fnOf Go.Proofs.Try.prog (fun _ _ => true) 92 = some c92 := by kernel_rfl

/-- bywash/flat.Mul$1 -/
def c93 : RFn := ⟨(.seq (.region [⟨(some 4), .move (.c (.int .i64 0)), none, 0⟩] false)
 (.seq (.region [⟨(some 5), .move (.t 0), none, 0⟩,
  ⟨(some 6), .move (.t 1), none, 0⟩,
  ⟨(some 7), .bin .mul (.t 5) (.t 6), none, 0⟩,
  ⟨(some 4), .move (.t 7), none, 0⟩] false)
 .ret)),
 [.tmp 4]⟩
theorem b93 : fnOf Go.Proofs.Try.prog (fun _ _ => true) 93 = some c93 := by kernel_rfl

/-- bywash/bywashref02.sane -/
def c94 : RFn := ⟨(.seq (.region [⟨(some 1), .box (.t 0), none, 0⟩,
  ⟨(some 2), .alloc (.agg [(.int .i64 0), (.int .i64 0)]), none, 0⟩] false)
 (.seq (.seq (.region [⟨(some 3), .load (some 2) (.t 1), none, 0⟩,
  ⟨(some 4), .call 31 [(.t 3)], none, 0⟩,
  ⟨(some 5), .un .not (.t 4), none, 0⟩] false)
 (.cond (.t 5)
 (.seq (.region [⟨(some 6), .build [(.int .i64 0), (.int .i64 0)] [(0, 1, (.c (.int .i64 2))), (1, 1, (.c (.int .i64 0)))], none, 0⟩,
  ⟨none, .store 2 (.t 2) (.t 6), none, 0⟩] false)
 .ret)
 .skip))
 (.seq (.region [⟨(some 7), .load (some 2) (.t 1), none, 0⟩,
  ⟨none, .store 2 (.t 2) (.t 7), none, 0⟩] false)
 .ret))),
 [.cell (some 2) 2]⟩
theorem b94 : fnOf Go.Proofs.Try.prog (fun _ _ => true) 94 = some c94 := by kernel_rfl

/-- bywash/bywashref02.made -/
def c95 : RFn := ⟨(.seq (.region [⟨(some 4), .alloc (.agg [(.int .i64 0), (.int .i64 0)]), none, 0⟩] false)
 (.seq (.seq (.region [⟨(some 5), .move (.t 0), none, 0⟩,
  ⟨(some 6), .bin .neq (.t 5) (.c (.int .i64 1)), none, 0⟩] false)
 (.cond (.t 6)
 (.seq (.region [⟨(some 7), .move (.t 0), none, 0⟩,
  ⟨(some 8), .build [(.int .i64 0), (.int .i64 0)] [(0, 1, (.t 7)), (1, 1, (.c (.int .i64 0)))], none, 0⟩,
  ⟨none, .store 2 (.t 4) (.t 8), none, 0⟩] false)
 .ret)
 .skip))
 (.seq (.region [⟨(some 9), .move (.t 1), none, 0⟩,
  ⟨(some 10), .call 37 [(.t 9)], none, 0⟩,
  ⟨none, .store 2 (.t 4) (.t 10), none, 0⟩] false)
 .ret))),
 [.cell (some 2) 4]⟩
theorem b95 : fnOf Go.Proofs.Try.prog (fun _ _ => true) 95 = some c95 := by kernel_rfl

/-- bywash/bywashref02.kind -/
def c96 : RFn := ⟨(.seq (.region [⟨(some 2), .box (.t 0), none, 0⟩,
  ⟨(some 3), .box (.t 1), none, 0⟩,
  ⟨(some 4), .move (.c (.int .i64 0)), none, 0⟩] false)
 (.seq (.seq (.region [⟨(some 5), .fieldAddr 0 (.t 2), none, 0⟩,
  ⟨(some 6), .load none (.t 5), none, 0⟩,
  ⟨(some 7), .bin .eql (.t 6) (.c (.int .i64 0)), none, 0⟩,
  ⟨(some 8), .move (.t 7), none, 0⟩,
  ⟨(some 9), .fieldAddr 0 (.t 3), (some (8, false)), 0⟩,
  ⟨(some 10), .load none (.t 9), (some (8, false)), 0⟩,
  ⟨(some 11), .bin .eql (.t 10) (.c (.int .i64 0)), (some (8, false)), 0⟩,
  ⟨(some 12), .pick (.t 8) (.c (.bool true)) (.t 11), none, 0⟩] false)
 (.cond (.t 12)
 (.seq (.region [⟨(some 4), .move (.c (.int .i64 0)), none, 0⟩] false)
 .ret)
 .skip))
 (.seq (.region [⟨(some 13), .fieldAddr 0 (.t 2), none, 0⟩,
  ⟨(some 14), .load none (.t 13), none, 0⟩,
  ⟨(some 15), .fieldAddr 0 (.t 3), none, 0⟩,
  ⟨(some 16), .load none (.t 15), none, 0⟩,
  ⟨(some 17), .mm true (.t 14) [(.t 16)], none, 0⟩,
  ⟨(some 4), .move (.t 17), none, 0⟩] false)
 .ret))),
 [.tmp 4]⟩
theorem b96 : fnOf Go.Proofs.Try.prog (fun _ _ => true) 96 = some c96 := by kernel_rfl

end Go.Vm
