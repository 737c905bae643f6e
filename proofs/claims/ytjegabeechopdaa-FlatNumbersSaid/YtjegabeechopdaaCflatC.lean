/- Code. -/
import Derived.Test.YtjegabeechopdaaVmV
import Derived.KernelRfl
import Derived.Test.YtjegabeechopdaaProg
set_option maxRecDepth 100000
set_option linter.unusedSimpArgs false
set_option linter.unusedVariables false
namespace Go.Vm
open Go

/-- bywash/bywashlaw02.FlatIs -/
def c7 : RFn := ⟨(.seq (.region [⟨(some 3), .box (.t 0), none, 0⟩,
  ⟨(some 4), .box (.t 1), none, 0⟩,
  ⟨(some 6), .move (.c (.bool false)), none, 0⟩] false)
 (.seq (.region [⟨(some 10), .call 20 [], none, 0⟩,
  ⟨(some 7), .move (.t 10), none, 0⟩] false)
 (.seq (.region [⟨(some 11), .load (some 2) (.t 3), none, 0⟩,
  ⟨(some 12), .call 21 [(.t 11)], none, 0⟩,
  ⟨(some 8), .alloc (.agg [(.int .i64 0), (.int .i64 0)]), none, 0⟩,
  ⟨none, .store 2 (.t 8) (.t 12), none, 0⟩] false)
 (.seq (.region [⟨(some 13), .load (some 2) (.t 4), none, 0⟩,
  ⟨(some 14), .call 21 [(.t 13)], none, 0⟩,
  ⟨(some 9), .alloc (.agg [(.int .i64 0), (.int .i64 0)]), none, 0⟩,
  ⟨none, .store 2 (.t 9) (.t 14), none, 0⟩] false)
 (.seq (.seq (.region [⟨(some 15), .load (some 2) (.t 8), none, 0⟩,
  ⟨(some 16), .call 24 [(.t 15)], none, 1⟩,
  ⟨(some 17), .load (some 2) (.t 3), none, 0⟩,
  ⟨(some 18), .call 31 [(.t 17)], none, 7⟩,
  ⟨(some 19), .binb .neq (.t 16) (.t 18), none, 15⟩,
  ⟨(some 20), .move (.t 19), none, 31⟩,
  ⟨(some 21), .load (some 2) (.t 8), (some (20, false)), 63⟩,
  ⟨(some 22), .load (some 2) (.t 9), (some (20, false)), 63⟩,
  ⟨(some 23), .call 22 [(.t 21), (.t 22)], (some (20, false)), 255⟩,
  ⟨(some 24), .call 32 [(.t 23)], (some (20, false)), 511⟩,
  ⟨(some 25), .load (some 2) (.t 3), (some (20, false)), 63⟩,
  ⟨(some 26), .load (some 2) (.t 4), (some (20, false)), 63⟩,
  ⟨(some 27), .call 33 [(.t 25), (.t 26)], (some (20, false)), 4095⟩,
  ⟨(some 28), .eqs true [(0, 1), (1, 1)] (.t 24) (.t 27), (some (20, false)), 8191⟩,
  ⟨(some 29), .pick (.t 20) (.c (.bool true)) (.t 28), none, 16383⟩,
  ⟨(some 30), .move (.t 29), none, 32767⟩,
  ⟨(some 31), .load (some 2) (.t 8), (some (30, false)), 65535⟩,
  ⟨(some 32), .load (some 2) (.t 9), (some (30, false)), 65535⟩,
  ⟨(some 33), .call 23 [(.t 31), (.t 32)], (some (30, false)), 262143⟩,
  ⟨(some 34), .load (some 2) (.t 3), (some (30, false)), 65535⟩,
  ⟨(some 35), .load (some 2) (.t 4), (some (30, false)), 65535⟩,
  ⟨(some 36), .call 34 [(.t 34), (.t 35)], (some (30, false)), 2097151⟩,
  ⟨(some 37), .binb .neq (.t 33) (.t 36), (some (30, false)), 4194303⟩,
  ⟨(some 38), .pick (.t 30) (.c (.bool true)) (.t 37), none, 8388607⟩,
  ⟨(some 39), .move (.t 38), none, 16777215⟩,
  ⟨(some 40), .move (.t 2), (some (39, false)), 33554431⟩,
  ⟨(some 41), .call 35 [(.t 40)], (some (39, false)), 67108863⟩,
  ⟨(some 42), .move (.t 2), (some (39, false)), 33554431⟩,
  ⟨(some 43), .call 36 [(.t 42)], (some (39, false)), 268435455⟩,
  ⟨(some 44), .bin .neq (.t 41) (.t 43), (some (39, false)), 536870911⟩,
  ⟨(some 45), .pick (.t 39) (.c (.bool true)) (.t 44), none, 1073741823⟩,
  ⟨(some 46), .move (.t 45), none, 2147483647⟩,
  ⟨(some 47), .move (.t 2), (some (46, false)), 4294967295⟩,
  ⟨(some 48), .call 26 [(.t 47)], (some (46, false)), 8589934591⟩,
  ⟨(some 49), .call 32 [(.t 48)], (some (46, false)), 17179869183⟩,
  ⟨(some 50), .move (.t 2), (some (46, false)), 4294967295⟩,
  ⟨(some 51), .call 37 [(.t 50)], (some (46, false)), 68719476735⟩,
  ⟨(some 52), .eqs true [(0, 1), (1, 1)] (.t 49) (.t 51), (some (46, false)), 137438953471⟩,
  ⟨(some 53), .pick (.t 46) (.c (.bool true)) (.t 52), none, 274877906943⟩,
  ⟨(some 54), .move (.t 53), none, 549755813887⟩,
  ⟨(some 55), .load (some 2) (.t 8), (some (54, false)), 1099511627775⟩,
  ⟨(some 56), .call 25 [(.t 55)], (some (54, false)), 2199023255551⟩,
  ⟨(some 57), .load (some 2) (.t 3), (some (54, false)), 1099511627775⟩,
  ⟨(some 58), .call 38 [(.t 57)], (some (54, false)), 8796093022207⟩,
  ⟨(some 59), .bin .neq (.t 56) (.t 58), (some (54, false)), 17592186044415⟩,
  ⟨(some 60), .pick (.t 54) (.c (.bool true)) (.t 59), none, 35184372088831⟩] true)
 (.cond (.t 60)
 (.seq (.region [⟨(some 6), .move (.c (.bool false)), none, 0⟩] false)
 .ret)
 .skip))
 (.seq (.region [⟨(some 61), .move (.t 7), none, 0⟩,
  ⟨(some 62), .move (.t 61), none, 1⟩,
  ⟨(some 63), .load (some 2) (.t 8), (some (62, true)), 3⟩,
  ⟨(some 64), .call 29 [(.t 63)], (some (62, true)), 7⟩,
  ⟨(some 65), .call 32 [(.t 64)], (some (62, true)), 15⟩,
  ⟨(some 66), .load (some 2) (.t 3), (some (62, true)), 3⟩,
  ⟨(some 67), .call 39 [(.t 66)], (some (62, true)), 63⟩,
  ⟨(some 68), .eqs false [(0, 1), (1, 1)] (.t 65) (.t 67), (some (62, true)), 127⟩,
  ⟨(some 69), .pick (.t 62) (.t 68) (.c (.bool false)), none, 255⟩,
  ⟨(some 70), .move (.t 69), none, 511⟩,
  ⟨(some 71), .load (some 2) (.t 8), (some (70, true)), 1023⟩,
  ⟨(some 72), .load (some 2) (.t 9), (some (70, true)), 1023⟩,
  ⟨(some 73), .call 27 [(.t 71), (.t 72)], (some (70, true)), 4095⟩,
  ⟨(some 74), .call 32 [(.t 73)], (some (70, true)), 8191⟩,
  ⟨(some 75), .load (some 2) (.t 3), (some (70, true)), 1023⟩,
  ⟨(some 76), .load (some 2) (.t 4), (some (70, true)), 1023⟩,
  ⟨(some 77), .call 40 [(.t 75), (.t 76)], (some (70, true)), 65535⟩,
  ⟨(some 78), .eqs false [(0, 1), (1, 1)] (.t 74) (.t 77), (some (70, true)), 131071⟩,
  ⟨(some 79), .pick (.t 70) (.t 78) (.c (.bool false)), none, 262143⟩,
  ⟨(some 80), .move (.t 79), none, 524287⟩,
  ⟨(some 81), .load (some 2) (.t 8), (some (80, true)), 1048575⟩,
  ⟨(some 82), .load (some 2) (.t 9), (some (80, true)), 1048575⟩,
  ⟨(some 83), .call 28 [(.t 81), (.t 82)], (some (80, true)), 4194303⟩,
  ⟨(some 84), .call 32 [(.t 83)], (some (80, true)), 8388607⟩,
  ⟨(some 85), .load (some 2) (.t 3), (some (80, true)), 1048575⟩,
  ⟨(some 86), .load (some 2) (.t 4), (some (80, true)), 1048575⟩,
  ⟨(some 87), .call 41 [(.t 85), (.t 86)], (some (80, true)), 67108863⟩,
  ⟨(some 88), .eqs false [(0, 1), (1, 1)] (.t 84) (.t 87), (some (80, true)), 134217727⟩,
  ⟨(some 89), .pick (.t 80) (.t 88) (.c (.bool false)), none, 268435455⟩,
  ⟨(some 90), .move (.t 89), none, 536870911⟩,
  ⟨(some 91), .load (some 2) (.t 8), (some (90, true)), 1073741823⟩,
  ⟨(some 92), .load (some 2) (.t 9), (some (90, true)), 1073741823⟩,
  ⟨(some 93), .call 30 [(.t 91), (.t 92)], (some (90, true)), 4294967295⟩,
  ⟨(some 94), .call 32 [(.t 93)], (some (90, true)), 8589934591⟩,
  ⟨(some 95), .load (some 2) (.t 3), (some (90, true)), 1073741823⟩,
  ⟨(some 96), .load (some 2) (.t 4), (some (90, true)), 1073741823⟩,
  ⟨(some 97), .call 42 [(.t 95), (.t 96)], (some (90, true)), 68719476735⟩,
  ⟨(some 98), .eqs false [(0, 1), (1, 1)] (.t 94) (.t 97), (some (90, true)), 137438953471⟩,
  ⟨(some 99), .pick (.t 90) (.t 98) (.c (.bool false)), none, 274877906943⟩,
  ⟨(some 6), .move (.t 99), none, 549755813887⟩] true)
 .ret)))))),
 [.tmp 6]⟩
theorem b7 : fnOf Go.Proofs.Try.prog (fun _ _ => true) 7 = some c7 := by kernel_rfl

/-- bywash/bywashlaw02.awake -/
def c20 : RFn := ⟨(.seq (.region [⟨(some 0), .move (.c (.bool false)), none, 0⟩] false)
 (.seq (.region [⟨(some 1), .call 26 [(.c (.int .i64 2147483647))], none, 0⟩,
  ⟨(some 2), .call 26 [(.c (.int .i64 1))], none, 0⟩,
  ⟨(some 3), .call 27 [(.t 1), (.t 2)], none, 0⟩,
  ⟨(some 4), .call 26 [(.c (.int .i64 (-2147483648)))], none, 0⟩,
  ⟨(some 5), .eqs false [(0, 1), (1, 1)] (.t 3) (.t 4), none, 0⟩,
  ⟨(some 6), .move (.t 5), none, 0⟩,
  ⟨(some 7), .call 26 [(.c (.int .i64 1))], (some (6, true)), 0⟩,
  ⟨(some 8), .call 26 [(.c (.int .i64 2))], (some (6, true)), 0⟩,
  ⟨(some 9), .call 22 [(.t 7), (.t 8)], (some (6, true)), 0⟩,
  ⟨(some 10), .field 0 none (.t 9), (some (6, true)), 0⟩,
  ⟨(some 11), .bin .eql (.t 10) (.c (.int .i64 2)), (some (6, true)), 0⟩,
  ⟨(some 12), .pick (.t 6) (.t 11) (.c (.bool false)), none, 0⟩,
  ⟨(some 13), .move (.t 12), none, 0⟩,
  ⟨(some 14), .call 26 [(.c (.int .i64 0))], (some (13, true)), 0⟩,
  ⟨(some 15), .call 25 [(.t 14)], (some (13, true)), 0⟩,
  ⟨(some 16), .bin .eql (.t 15) (.c (.int .i64 1)), (some (13, true)), 0⟩,
  ⟨(some 17), .pick (.t 13) (.t 16) (.c (.bool false)), none, 0⟩,
  ⟨(some 0), .move (.t 17), none, 0⟩] false)
 .ret)),
 [.tmp 0]⟩
theorem b20 : fnOf Go.Proofs.Try.prog (fun _ _ => true) 20 = some c20 := by kernel_rfl

/-- bywash/bywashlaw02.ours -/
def c21 : RFn := ⟨(.seq (.region [⟨(some 1), .box (.t 0), none, 0⟩,
  ⟨(some 2), .alloc (.agg [(.int .i64 0), (.int .i64 0)]), none, 0⟩] false)
 (.seq (.region [⟨(some 3), .fieldAddr 0 (.t 1), none, 0⟩,
  ⟨(some 4), .load none (.t 3), none, 0⟩,
  ⟨(some 5), .fieldAddr 1 (.t 1), none, 0⟩,
  ⟨(some 6), .load none (.t 5), none, 0⟩,
  ⟨(some 7), .build [(.int .i64 0), (.int .i64 0)] [(0, 1, (.t 4)), (1, 1, (.t 6))], none, 0⟩,
  ⟨none, .store 2 (.t 2) (.t 7), none, 0⟩] false)
 .ret)),
 [.cell (some 2) 2]⟩
theorem b21 : fnOf Go.Proofs.Try.prog (fun _ _ => true) 21 = some c21 := by kernel_rfl

/-- bywash/bywashlaw02.theirs -/
def c32 : RFn := ⟨(.seq (.region [⟨(some 1), .box (.t 0), none, 0⟩,
  ⟨(some 2), .alloc (.agg [(.int .i64 0), (.int .i64 0)]), none, 0⟩] false)
 (.seq (.region [⟨(some 3), .fieldAddr 0 (.t 1), none, 0⟩,
  ⟨(some 4), .load none (.t 3), none, 0⟩,
  ⟨(some 5), .fieldAddr 1 (.t 1), none, 0⟩,
  ⟨(some 6), .load none (.t 5), none, 0⟩,
  ⟨(some 7), .build [(.int .i64 0), (.int .i64 0)] [(0, 1, (.t 4)), (1, 1, (.t 6))], none, 0⟩,
  ⟨none, .store 2 (.t 2) (.t 7), none, 0⟩] false)
 .ret)),
 [.cell (some 2) 2]⟩
theorem b32 : fnOf Go.Proofs.Try.prog (fun _ _ => true) 32 = some c32 := by kernel_rfl

end Go.Vm
