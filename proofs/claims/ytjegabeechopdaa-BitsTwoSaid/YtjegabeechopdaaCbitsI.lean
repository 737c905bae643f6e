/- Laid. -/
import Derived.Test.YtjegabeechopdaaVmThree
import Derived.KernelRfl
import Derived.Test.YtjegabeechopdaaProg
/- Code. -/
set_option maxRecDepth 100000
set_option linter.unusedSimpArgs false
set_option linter.unusedVariables false
namespace Go.Vm
open Go

/-- bywash/bywashlaw01.BitsTwo -/
def c16 : RFn := ⟨(.seq (.region (Nodes.flat none (.op (some 2) (.box (.t 0)) 0
  (.op (some 3) (.box (.t 1)) 0
  (.op (some 4) (.move (.c (.bool false))) 0
  .nil)))) false)
 (.seq (.region (Nodes.flat none (.op (some 8) (.call 67 []) 0
  (.op (some 5) (.move (.t 8)) 0
  .nil))) false)
 (.seq (.seq (.region (Nodes.flat none (.op (some 9) (.load (some 2) (.t 2)) 0
  (.op (some 10) (.call 75 [(.t 9)]) 0
  (.op (some 11) (.un .not (.t 10)) 0
  (.op (some 12) (.move (.t 11)) 0
  (.grd 12 false
  (.op (some 13) (.load (some 2) (.t 3)) 0
  (.op (some 14) (.call 75 [(.t 13)]) 0
  (.op (some 15) (.un .not (.t 14)) 0
  .nil)))
  (.op (some 16) (.pick (.t 12) (.c (.bool true)) (.t 15)) 0
  .nil))))))) false)
 (.cond (.t 16)
 (.seq (.region (Nodes.flat none (.op (some 17) (.move (.t 5)) 0
  (.op (some 4) (.move (.t 17)) 0
  .nil))) false)
 .ret)
 .skip))
 (.seq (.region (Nodes.flat none (.op (some 18) (.load (some 2) (.t 2)) 0
  (.op (some 19) (.call 76 [(.t 18)]) 0
  (.op (some 6) (.alloc (.agg [(.int .i64 0), (.lit [])])) 0
  (.op none (.store 2 (.t 6) (.t 19)) 0
  .nil))))) false)
 (.seq (.region (Nodes.flat none (.op (some 20) (.load (some 2) (.t 3)) 0
  (.op (some 21) (.call 76 [(.t 20)]) 0
  (.op (some 7) (.alloc (.agg [(.int .i64 0), (.lit [])])) 0
  (.op none (.store 2 (.t 7) (.t 21)) 0
  .nil))))) false)
 (.seq (.region (Nodes.flat none (.op (some 22) (.move (.t 5)) 0
  (.op (some 23) (.move (.t 22)) 1
  (.grd 23 true
  (.op (some 24) (.load (some 2) (.t 6)) 3
  (.op (some 25) (.load (some 2) (.t 7)) 3
  (.op (some 26) (.call 79 [(.t 24), (.t 25)]) 15
  (.op (some 27) (.call 78 [(.t 26)]) 31
  (.op (some 28) (.load (some 2) (.t 2)) 3
  (.op (some 29) (.load (some 2) (.t 3)) 3
  (.op (some 30) (.call 80 [(.t 28), (.t 29)]) 255
  (.op (some 31) (.call 77 [(.t 27), (.t 30)]) 511
  .nil))))))))
  (.op (some 32) (.pick (.t 23) (.t 31) (.c (.bool false))) 1023
  (.op (some 33) (.move (.t 32)) 2047
  (.grd 33 true
  (.op (some 34) (.load (some 2) (.t 6)) 4095
  (.op (some 35) (.load (some 2) (.t 7)) 4095
  (.op (some 36) (.call 81 [(.t 34), (.t 35)]) 16383
  (.op (some 37) (.call 78 [(.t 36)]) 32767
  (.op (some 38) (.load (some 2) (.t 2)) 4095
  (.op (some 39) (.load (some 2) (.t 3)) 4095
  (.op (some 40) (.call 82 [(.t 38), (.t 39)]) 262143
  (.op (some 41) (.call 77 [(.t 37), (.t 40)]) 524287
  .nil))))))))
  (.op (some 42) (.pick (.t 33) (.t 41) (.c (.bool false))) 1048575
  (.op (some 43) (.move (.t 42)) 2097151
  (.grd 43 true
  (.op (some 44) (.load (some 2) (.t 6)) 4194303
  (.op (some 45) (.load (some 2) (.t 7)) 4194303
  (.op (some 46) (.call 83 [(.t 44), (.t 45)]) 16777215
  (.op (some 47) (.call 78 [(.t 46)]) 33554431
  (.op (some 48) (.load (some 2) (.t 2)) 4194303
  (.op (some 49) (.load (some 2) (.t 3)) 4194303
  (.op (some 50) (.call 84 [(.t 48), (.t 49)]) 268435455
  (.op (some 51) (.call 77 [(.t 47), (.t 50)]) 536870911
  .nil))))))))
  (.op (some 52) (.pick (.t 43) (.t 51) (.c (.bool false))) 1073741823
  (.op (some 53) (.move (.t 52)) 2147483647
  (.grd 53 true
  (.op (some 54) (.load (some 2) (.t 6)) 4294967295
  (.op (some 55) (.load (some 2) (.t 7)) 4294967295
  (.op (some 56) (.call 70 [(.t 54), (.t 55)]) 17179869183
  (.op (some 57) (.load (some 2) (.t 2)) 4294967295
  (.op (some 58) (.load (some 2) (.t 3)) 4294967295
  (.op (some 59) (.call 85 [(.t 57), (.t 58)]) 137438953471
  (.op (some 60) (.binb .eql (.t 56) (.t 59)) 274877906943
  .nil)))))))
  (.op (some 61) (.pick (.t 53) (.t 60) (.c (.bool false))) 549755813887
  (.op (some 62) (.move (.t 61)) 1099511627775
  (.grd 62 true
  (.op (some 63) (.load (some 2) (.t 6)) 2199023255551
  (.op (some 64) (.load (some 2) (.t 7)) 2199023255551
  (.op (some 65) (.call 71 [(.t 63), (.t 64)]) 8796093022207
  (.op (some 66) (.load (some 2) (.t 2)) 2199023255551
  (.op (some 67) (.load (some 2) (.t 3)) 2199023255551
  (.op (some 68) (.call 86 [(.t 66), (.t 67)]) 70368744177663
  (.op (some 69) (.binb .eql (.t 65) (.t 68)) 140737488355327
  .nil)))))))
  (.op (some 70) (.pick (.t 62) (.t 69) (.c (.bool false))) 281474976710655
  (.op (some 4) (.move (.t 70)) 562949953421311
  .nil)))))))))))))))))) true)
 .ret)))))),
 [.tmp 4]⟩
theorem b16 : fnOf Go.Proofs.Try.prog (owOf []) 16 = some c16 := by kernel_rfl

/-- bywash/bywashlaw01.theirs -/
def c78 : RFn := ⟨(.seq (.region (Nodes.flat none (.op (some 1) (.box (.t 0)) 0
  (.op (some 2) (.alloc (.agg [(.int .i64 0), (.lit [])])) 0
  .nil))) false)
 (.seq (.region (Nodes.flat none (.op (some 3) (.fieldAddr 0 (.t 1)) 0
  (.op (some 4) (.load none (.t 3)) 0
  (.op (some 5) (.fieldAddr 1 (.t 1)) 0
  (.op (some 6) (.load none (.t 5)) 0
  (.op (some 7) (.build [(.int .i64 0), (.lit [])] [(0, 1, (.t 4)), (1, 1, (.t 6))]) 0
  (.op none (.store 2 (.t 2) (.t 7)) 0
  .nil))))))) false)
 .ret)),
 [.cell (some 2) 2]⟩
theorem b78 : fnOf Go.Proofs.Try.prog (owOf []) 78 = some c78 := by kernel_rfl

/-- bywash/bywashref01.Union -/
def c80 : RFn := ⟨(.seq (.region (Nodes.flat none (.op (some 2) (.box (.t 0)) 0
  (.op (some 3) (.box (.t 1)) 0
  (.op (some 4) (.alloc (.agg [(.int .i64 0), (.lit [])])) 0
  .nil)))) false)
 (.seq (.region (Nodes.flat none (.op (some 5) (.load (some 2) (.t 2)) 0
  (.op (some 6) (.load (some 2) (.t 3)) 0
  (.op (some 7) (.call 113 [(.t 5), (.t 6), (.c (.int .i64 0))]) 0
  (.op none (.store 2 (.t 4) (.t 7)) 0
  .nil))))) false)
 .ret)),
 [.cell (some 2) 4]⟩
theorem b80 : fnOf Go.Proofs.Try.prog (owOf []) 80 = some c80 := by kernel_rfl

/-- bywash/bywashref01.Minus -/
def c82 : RFn := ⟨(.seq (.region (Nodes.flat none (.op (some 2) (.box (.t 0)) 0
  (.op (some 3) (.box (.t 1)) 0
  (.op (some 4) (.alloc (.agg [(.int .i64 0), (.lit [])])) 0
  .nil)))) false)
 (.seq (.region (Nodes.flat none (.op (some 5) (.load (some 2) (.t 2)) 0
  (.op (some 6) (.load (some 2) (.t 3)) 0
  (.op (some 7) (.call 113 [(.t 5), (.t 6), (.c (.int .i64 1))]) 0
  (.op none (.store 2 (.t 4) (.t 7)) 0
  .nil))))) false)
 .ret)),
 [.cell (some 2) 4]⟩
theorem b82 : fnOf Go.Proofs.Try.prog (owOf []) 82 = some c82 := by kernel_rfl

/-- bywash/bywashref01.Meet -/
def c84 : RFn := ⟨(.seq (.region (Nodes.flat none (.op (some 2) (.box (.t 0)) 0
  (.op (some 3) (.box (.t 1)) 0
  (.op (some 4) (.alloc (.agg [(.int .i64 0), (.lit [])])) 0
  .nil)))) false)
 (.seq (.region (Nodes.flat none (.op (some 5) (.load (some 2) (.t 2)) 0
  (.op (some 6) (.load (some 2) (.t 3)) 0
  (.op (some 7) (.call 113 [(.t 5), (.t 6), (.c (.int .i64 2))]) 0
  (.op none (.store 2 (.t 4) (.t 7)) 0
  .nil))))) false)
 .ret)),
 [.cell (some 2) 4]⟩
theorem b84 : fnOf Go.Proofs.Try.prog (owOf []) 84 = some c84 := by kernel_rfl

/-- bywash/bywashref01.Leq -/
def c85 : RFn := ⟨(.seq (.region (Nodes.flat none (.op (some 2) (.box (.t 0)) 0
  (.op (some 3) (.box (.t 1)) 0
  (.op (some 4) (.move (.c (.bool false))) 0
  .nil)))) false)
 (.seq (.region (Nodes.flat none (.op (some 5) (.load (some 2) (.t 2)) 0
  (.op (some 6) (.load (some 2) (.t 3)) 0
  (.op (some 7) (.call 82 [(.t 5), (.t 6)]) 0
  (.op (some 8) (.call 114 [(.t 7)]) 0
  (.op (some 9) (.len false (.t 8)) 0
  (.op (some 10) (.bin .eql (.t 9) (.c (.int .i64 0))) 0
  (.op (some 4) (.move (.t 10)) 0
  .nil)))))))) false)
 .ret)),
 [.tmp 4]⟩
theorem b85 : fnOf Go.Proofs.Try.prog (owOf []) 85 = some c85 := by kernel_rfl

/-- bywash/bywashref01.Same -/
def c86 : RFn := ⟨(.seq (.region (Nodes.flat none (.op (some 2) (.box (.t 0)) 0
  (.op (some 3) (.box (.t 1)) 0
  (.op (some 4) (.move (.c (.bool false))) 0
  .nil)))) false)
 (.seq (.region (Nodes.flat none (.op (some 5) (.load (some 2) (.t 2)) 0
  (.op (some 6) (.call 115 [(.t 5)]) 1
  (.op (some 7) (.load (some 2) (.t 3)) 0
  (.op (some 8) (.call 115 [(.t 7)]) 7
  (.op (some 9) (.bin .eql (.t 6) (.t 8)) 15
  (.op (some 10) (.move (.t 9)) 31
  (.grd 10 true
  (.op (some 11) (.load (some 2) (.t 2)) 63
  (.op (some 12) (.call 114 [(.t 11)]) 127
  (.op (some 13) (.load (some 2) (.t 3)) 63
  (.op (some 14) (.call 114 [(.t 13)]) 511
  (.op (some 15) (.call 59 [(.t 12), (.t 14)]) 1023
  .nil)))))
  (.op (some 16) (.pick (.t 10) (.t 15) (.c (.bool false))) 2047
  (.op (some 4) (.move (.t 16)) 4095
  .nil)))))))))) true)
 .ret)),
 [.tmp 4]⟩
theorem b86 : fnOf Go.Proofs.Try.prog (owOf []) 86 = some c86 := by kernel_rfl

end Go.Vm
