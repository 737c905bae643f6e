/- Laid. -/
import Derived.Test.YtjegabeechopdaaVmThree
import Derived.KernelRfl
import Derived.Test.YtjegabeechopdaaProg
/- Code. -/
set_option maxRecDepth 100000
set_option linter.unusedSimpArgs false
set_option linter.unusedVariables false
namespace Go.Vm
open Go

/-- bywash/bywashref01.Ints -/
def c59 : RFn := ⟨(.seq (.region (Nodes.flat none (.op (some 4) (.move (.c (.bool false))) 0
  .nil)) false)
 (.seq (.seq (.region (Nodes.flat none (.op (some 6) (.move (.t 0)) 0
  (.op (some 7) (.len false (.t 6)) 0
  (.op (some 8) (.move (.t 1)) 0
  (.op (some 9) (.len false (.t 8)) 0
  (.op (some 10) (.bin .neq (.t 7) (.t 9)) 0
  .nil)))))) false)
 (.cond (.t 10)
 (.seq (.region (Nodes.flat none (.op (some 4) (.move (.c (.bool false))) 0
  .nil)) false)
 .ret)
 .skip))
 (.seq (.seq (.region (Nodes.flat none (.op (some 5) (.move (.c (.int .i64 0))) 0
  .nil)) false)
 (.block 0 (.loop (.seq (.seq (.region (Nodes.flat none (.op (some 11) (.move (.t 5)) 0
  (.op (some 12) (.move (.t 0)) 0
  (.op (some 13) (.len false (.t 12)) 0
  (.op (some 14) (.bin .lss (.t 11) (.t 13)) 0
  .nil))))) false)
 (.cond (.t 14)
 .skip
 (.exit 0)))
 (.seq (.block 1 (.seq (.region (Nodes.flat none (.op (some 17) (.move (.t 0)) 0
  (.op (some 18) (.move (.t 5)) 0
  (.op (some 19) (.idxAddr 1 (.t 17) (.t 18)) 3
  (.op (some 20) (.load none (.t 19)) 7
  (.op (some 21) (.move (.t 1)) 0
  (.op (some 22) (.move (.t 5)) 0
  (.op (some 23) (.idxAddr 1 (.t 21) (.t 22)) 48
  (.op (some 24) (.load none (.t 23)) 112
  (.op (some 25) (.bin .neq (.t 20) (.t 24)) 255
  .nil)))))))))) true)
 (.cond (.t 25)
 (.seq (.region (Nodes.flat none (.op (some 4) (.move (.c (.bool false))) 0
  .nil)) false)
 .ret)
 .skip)))
 (.region (Nodes.flat none (.op (some 15) (.move (.t 5)) 0
  (.op (some 16) (.bin .add (.t 15) (.c (.int .i64 1))) 0
  (.op (some 5) (.move (.t 16)) 0
  .nil)))) false))))))
 (.seq (.region (Nodes.flat none (.op (some 4) (.move (.c (.bool true))) 0
  .nil)) false)
 .ret)))),
 [.tmp 4]⟩
theorem b59 : fnOf Go.Proofs.Try.prog (owOf []) 59 = some c59 := by kernel_rfl

/-- bywash/bywashref01.Equal -/
def c77 : RFn := ⟨(.seq (.region (Nodes.flat none (.op (some 2) (.box (.t 0)) 0
  (.op (some 3) (.box (.t 1)) 0
  (.op (some 4) (.move (.c (.bool false))) 0
  .nil)))) false)
 (.seq (.seq (.region (Nodes.flat none (.op (some 6) (.fieldAddr 0 (.t 2)) 0
  (.op (some 7) (.load none (.t 6)) 0
  (.op (some 8) (.fieldAddr 0 (.t 3)) 0
  (.op (some 9) (.load none (.t 8)) 0
  (.op (some 10) (.bin .neq (.t 7) (.t 9)) 0
  (.op (some 11) (.move (.t 10)) 0
  (.grd 11 false
  (.op (some 12) (.fieldAddr 1 (.t 2)) 0
  (.op (some 13) (.load none (.t 12)) 0
  (.op (some 14) (.len false (.t 13)) 0
  (.op (some 15) (.fieldAddr 1 (.t 3)) 0
  (.op (some 16) (.load none (.t 15)) 0
  (.op (some 17) (.len false (.t 16)) 0
  (.op (some 18) (.bin .neq (.t 14) (.t 17)) 0
  .nil)))))))
  (.op (some 19) (.pick (.t 11) (.c (.bool true)) (.t 18)) 0
  .nil))))))))) false)
 (.cond (.t 19)
 (.seq (.region (Nodes.flat none (.op (some 4) (.move (.c (.bool false))) 0
  .nil)) false)
 .ret)
 .skip))
 (.seq (.seq (.region (Nodes.flat none (.op (some 5) (.move (.c (.int .i64 0))) 0
  .nil)) false)
 (.block 0 (.loop (.seq (.seq (.region (Nodes.flat none (.op (some 20) (.move (.t 5)) 0
  (.op (some 21) (.fieldAddr 1 (.t 2)) 0
  (.op (some 22) (.load none (.t 21)) 0
  (.op (some 23) (.len false (.t 22)) 0
  (.op (some 24) (.bin .lss (.t 20) (.t 23)) 0
  .nil)))))) false)
 (.cond (.t 24)
 .skip
 (.exit 0)))
 (.seq (.block 1 (.seq (.region (Nodes.flat none (.op (some 27) (.fieldAddr 1 (.t 2)) 0
  (.op (some 28) (.load none (.t 27)) 1
  (.op (some 29) (.move (.t 5)) 0
  (.op (some 30) (.idxAddr 1 (.t 28) (.t 29)) 7
  (.op (some 31) (.load none (.t 30)) 15
  (.op (some 32) (.fieldAddr 1 (.t 3)) 0
  (.op (some 33) (.load none (.t 32)) 32
  (.op (some 34) (.move (.t 5)) 0
  (.op (some 35) (.idxAddr 1 (.t 33) (.t 34)) 224
  (.op (some 36) (.load none (.t 35)) 480
  (.op (some 37) (.bin .neq (.t 31) (.t 36)) 1023
  .nil)))))))))))) true)
 (.cond (.t 37)
 (.seq (.region (Nodes.flat none (.op (some 4) (.move (.c (.bool false))) 0
  .nil)) false)
 .ret)
 .skip)))
 (.region (Nodes.flat none (.op (some 25) (.move (.t 5)) 0
  (.op (some 26) (.bin .add (.t 25) (.c (.int .i64 1))) 0
  (.op (some 5) (.move (.t 26)) 0
  .nil)))) false))))))
 (.seq (.region (Nodes.flat none (.op (some 4) (.move (.c (.bool true))) 0
  .nil)) false)
 .ret)))),
 [.tmp 4]⟩
theorem b77 : fnOf Go.Proofs.Try.prog (owOf []) 77 = some c77 := by kernel_rfl

/-- bywash/bywashref01.List -/
def c114 : RFn := ⟨(.seq (.region (Nodes.flat none (.op (some 1) (.box (.t 0)) 0
  (.op (some 2) (.move (.c (.lit []))) 0
  .nil))) false)
 (.seq (.region (Nodes.flat none (.op (some 3) (.move (.c (.lit []))) 0
  .nil)) false)
 (.seq (.region (Nodes.flat none (.op (some 6) (.load (some 2) (.t 1)) 0
  (.op (some 7) (.call 115 [(.t 6)]) 0
  (.op (some 4) (.move (.t 7)) 0
  .nil)))) false)
 (.seq (.seq (.region (Nodes.flat none (.op (some 5) (.move (.c (.int .i64 0))) 0
  .nil)) false)
 (.block 0 (.loop (.seq (.seq (.region (Nodes.flat none (.op (some 8) (.move (.t 5)) 0
  (.op (some 9) (.move (.t 4)) 0
  (.op (some 10) (.bin .lss (.t 8) (.t 9)) 0
  .nil)))) false)
 (.cond (.t 10)
 .skip
 (.exit 0)))
 (.seq (.block 1 (.seq (.region (Nodes.flat none (.op (some 13) (.fieldAddr 1 (.t 1)) 0
  (.op (some 14) (.load none (.t 13)) 0
  (.op (some 15) (.move (.t 5)) 0
  (.op (some 16) (.call 118 [(.t 14), (.t 15)]) 0
  .nil))))) false)
 (.cond (.t 16)
 (.region (Nodes.flat none (.op (some 17) (.move (.t 3)) 0
  (.op (some 18) (.move (.t 5)) 0
  (.op (some 19) (.bslice false 1 1 (.int .i64 0) [(0, (.t 18))]) 0
  (.op (some 20) (.append 1 (.int .i64 0) (.t 17) (.t 19)) 0
  (.op (some 3) (.move (.t 20)) 0
  .nil)))))) false)
 .skip)))
 (.region (Nodes.flat none (.op (some 11) (.move (.t 5)) 0
  (.op (some 12) (.bin .add (.t 11) (.c (.int .i64 1))) 0
  (.op (some 5) (.move (.t 12)) 0
  .nil)))) false))))))
 (.seq (.region (Nodes.flat none (.op (some 21) (.move (.t 3)) 0
  (.op (some 2) (.move (.t 21)) 0
  .nil))) false)
 .ret))))),
 [.tmp 2]⟩
theorem b114 : fnOf Go.Proofs.Try.prog (owOf [(7, 2)]) 114 = some c114 := by kernel_rfl

/-- bywash/bywashref01.size -/
def c115 : RFn := ⟨(.seq (.region (Nodes.flat none (.op (some 1) (.box (.t 0)) 0
  (.op (some 2) (.move (.c (.int .i64 0))) 0
  .nil))) false)
 (.seq (.seq (.region (Nodes.flat none (.op (some 3) (.load (some 2) (.t 1)) 0
  (.op (some 4) (.call 120 [(.t 3)]) 0
  (.op (some 5) (.un .not (.t 4)) 0
  .nil)))) false)
 (.cond (.t 5)
 (.seq (.region (Nodes.flat none (.op (some 2) (.move (.c (.int .i64 0))) 0
  .nil)) false)
 .ret)
 .skip))
 (.seq (.region (Nodes.flat none (.op (some 6) (.fieldAddr 0 (.t 1)) 0
  (.op (some 7) (.load none (.t 6)) 0
  (.op (some 2) (.move (.t 7)) 0
  .nil)))) false)
 .ret))),
 [.tmp 2]⟩
theorem b115 : fnOf Go.Proofs.Try.prog (owOf []) 115 = some c115 := by kernel_rfl

/-- bywash/bywashref01.bit -/
def c118 : RFn := ⟨(.seq (.region (Nodes.flat none (.op (some 4) (.move (.c (.bool false))) 0
  .nil)) false)
 (.seq (.region (Nodes.flat none (.op (some 5) (.move (.t 0)) 0
  (.op (some 6) (.move (.t 1)) 0
  (.op (some 7) (.bin .quo (.t 6) (.c (.int .i64 64))) 0
  (.op (some 8) (.idxAddr 1 (.t 5) (.t 7)) 0
  (.op (some 9) (.load none (.t 8)) 0
  (.op (some 10) (.move (.t 1)) 0
  (.op (some 11) (.bin .rem (.t 10) (.c (.int .i64 64))) 0
  (.op (some 12) (.conv .u64 (.t 11)) 0
  (.op (some 13) (.bin .shr (.t 9) (.t 12)) 0
  (.op (some 14) (.bin .and (.t 13) (.c (.int .u64 1))) 0
  (.op (some 15) (.bin .eql (.t 14) (.c (.int .u64 1))) 0
  (.op (some 4) (.move (.t 15)) 0
  .nil))))))))))))) false)
 .ret)),
 [.tmp 4]⟩
theorem b118 : fnOf Go.Proofs.Try.prog (owOf []) 118 = some c118 := by kernel_rfl

/-- bywash/bywashref01.Of -/
def c119 : RFn := ⟨(.seq (.region (Nodes.flat none (.op (some 4) (.alloc (.agg [(.int .i64 0), (.lit [])])) 0
  .nil)) false)
 (.seq (.region (Nodes.flat none (.op (some 7) (.move (.t 0)) 0
  (.op (some 8) (.call 121 [(.t 7)]) 0
  (.op (some 5) (.alloc (.agg [(.int .i64 0), (.lit [])])) 0
  (.op none (.store 2 (.t 5) (.t 8)) 0
  .nil))))) false)
 (.seq (.seq (.region (Nodes.flat none (.op (some 6) (.move (.c (.int .i64 0))) 0
  .nil)) false)
 (.block 0 (.loop (.seq (.seq (.region (Nodes.flat none (.op (some 9) (.move (.t 6)) 0
  (.op (some 10) (.move (.t 1)) 0
  (.op (some 11) (.len false (.t 10)) 0
  (.op (some 12) (.bin .lss (.t 9) (.t 11)) 0
  .nil))))) false)
 (.cond (.t 12)
 .skip
 (.exit 0)))
 (.seq (.block 1 (.seq (.region (Nodes.flat none (.op (some 15) (.move (.t 1)) 0
  (.op (some 16) (.move (.t 6)) 0
  (.op (some 17) (.idxAddr 1 (.t 15) (.t 16)) 3
  (.op (some 18) (.load none (.t 17)) 7
  (.op (some 19) (.bin .geq (.t 18) (.c (.int .i64 0))) 15
  (.op (some 20) (.move (.t 19)) 31
  (.grd 20 true
  (.op (some 21) (.move (.t 1)) 63
  (.op (some 22) (.move (.t 6)) 63
  (.op (some 23) (.idxAddr 1 (.t 21) (.t 22)) 255
  (.op (some 24) (.load none (.t 23)) 511
  (.op (some 25) (.fieldAddr 0 (.t 5)) 63
  (.op (some 26) (.load none (.t 25)) 1087
  (.op (some 27) (.bin .lss (.t 24) (.t 26)) 4095
  .nil)))))))
  (.op (some 28) (.pick (.t 20) (.t 27) (.c (.bool false))) 8191
  .nil))))))))) true)
 (.cond (.t 28)
 (.region (Nodes.flat none (.op (some 29) (.load (some 2) (.t 5)) 0
  (.op (some 30) (.move (.t 1)) 0
  (.op (some 31) (.move (.t 6)) 0
  (.op (some 32) (.idxAddr 1 (.t 30) (.t 31)) 6
  (.op (some 33) (.load none (.t 32)) 14
  (.op (some 34) (.call 122 [(.t 29), (.t 33)]) 31
  (.op none (.store 2 (.t 5) (.t 34)) 63
  .nil)))))))) true)
 .skip)))
 (.region (Nodes.flat none (.op (some 13) (.move (.t 6)) 0
  (.op (some 14) (.bin .add (.t 13) (.c (.int .i64 1))) 0
  (.op (some 6) (.move (.t 14)) 0
  .nil)))) false))))))
 (.seq (.region (Nodes.flat none (.op (some 35) (.load (some 2) (.t 5)) 0
  (.op none (.store 2 (.t 4) (.t 35)) 0
  .nil))) false)
 .ret)))),
 [.cell (some 2) 4]⟩
theorem b119 : fnOf Go.Proofs.Try.prog (owOf []) 119 = some c119 := by kernel_rfl

/-- bywash/bywashref01.Sane -/
def c120 : RFn := ⟨(.seq (.region (Nodes.flat none (.op (some 1) (.box (.t 0)) 0
  (.op (some 2) (.move (.c (.bool false))) 0
  .nil))) false)
 (.seq (.seq (.region (Nodes.flat none (.op (some 4) (.fieldAddr 0 (.t 1)) 0
  (.op (some 5) (.load none (.t 4)) 0
  (.op (some 6) (.bin .lss (.t 5) (.c (.int .i64 0))) 0
  (.op (some 7) (.move (.t 6)) 0
  (.grd 7 false
  (.op (some 8) (.fieldAddr 0 (.t 1)) 0
  (.op (some 9) (.load none (.t 8)) 0
  (.op (some 10) (.bin .gtr (.t 9) (.c (.int .i64 1024))) 0
  .nil)))
  (.op (some 11) (.pick (.t 7) (.c (.bool true)) (.t 10)) 0
  (.op (some 12) (.move (.t 11)) 0
  (.grd 12 false
  (.op (some 13) (.fieldAddr 1 (.t 1)) 0
  (.op (some 14) (.load none (.t 13)) 0
  (.op (some 15) (.len false (.t 14)) 0
  (.op (some 16) (.fieldAddr 0 (.t 1)) 0
  (.op (some 17) (.load none (.t 16)) 0
  (.op (some 18) (.bin .add (.t 17) (.c (.int .i64 63))) 0
  (.op (some 19) (.bin .quo (.t 18) (.c (.int .i64 64))) 0
  (.op (some 20) (.bin .neq (.t 15) (.t 19)) 0
  .nil))))))))
  (.op (some 21) (.pick (.t 12) (.c (.bool true)) (.t 20)) 0
  .nil)))))))))) false)
 (.cond (.t 21)
 (.seq (.region (Nodes.flat none (.op (some 2) (.move (.c (.bool false))) 0
  .nil)) false)
 .ret)
 .skip))
 (.seq (.seq (.region (Nodes.flat none (.op (some 22) (.fieldAddr 0 (.t 1)) 0
  (.op (some 23) (.load none (.t 22)) 0
  (.op (some 3) (.move (.t 23)) 0
  .nil)))) false)
 (.block 0 (.loop (.seq (.seq (.region (Nodes.flat none (.op (some 24) (.move (.t 3)) 0
  (.op (some 25) (.fieldAddr 1 (.t 1)) 0
  (.op (some 26) (.load none (.t 25)) 0
  (.op (some 27) (.len false (.t 26)) 0
  (.op (some 28) (.bin .mul (.t 27) (.c (.int .i64 64))) 0
  (.op (some 29) (.bin .lss (.t 24) (.t 28)) 0
  .nil))))))) false)
 (.cond (.t 29)
 .skip
 (.exit 0)))
 (.seq (.block 1 (.seq (.region (Nodes.flat none (.op (some 32) (.fieldAddr 1 (.t 1)) 0
  (.op (some 33) (.load none (.t 32)) 0
  (.op (some 34) (.move (.t 3)) 0
  (.op (some 35) (.call 118 [(.t 33), (.t 34)]) 0
  .nil))))) false)
 (.cond (.t 35)
 (.seq (.region (Nodes.flat none (.op (some 2) (.move (.c (.bool false))) 0
  .nil)) false)
 .ret)
 .skip)))
 (.region (Nodes.flat none (.op (some 30) (.move (.t 3)) 0
  (.op (some 31) (.bin .add (.t 30) (.c (.int .i64 1))) 0
  (.op (some 3) (.move (.t 31)) 0
  .nil)))) false))))))
 (.seq (.region (Nodes.flat none (.op (some 2) (.move (.c (.bool true))) 0
  .nil)) false)
 .ret)))),
 [.tmp 2]⟩
theorem b120 : fnOf Go.Proofs.Try.prog (owOf []) 120 = some c120 := by kernel_rfl

/-- bywash/bywashref01.New -/
def c121 : RFn := ⟨(.seq (.region (Nodes.flat none (.op (some 2) (.alloc (.agg [(.int .i64 0), (.lit [])])) 0
  .nil)) false)
 (.seq (.region (Nodes.flat none (.op (some 3) (.move (.t 0)) 0
  (.op (some 4) (.mm false (.t 3) [(.c (.int .i64 1024))]) 0
  (.op (some 5) (.mm true (.c (.int .i64 0)) [(.t 4)]) 0
  (.op (some 0) (.move (.t 5)) 0
  .nil))))) false)
 (.seq (.region (Nodes.flat none (.op (some 6) (.move (.t 0)) 0
  (.op (some 7) (.move (.t 0)) 0
  (.op (some 8) (.bin .add (.t 7) (.c (.int .i64 63))) 0
  (.op (some 9) (.bin .quo (.t 8) (.c (.int .i64 64))) 0
  (.op (some 10) (.mkslice 1 (.int .u64 0) (.t 9)) 0
  (.op (some 11) (.build [(.int .i64 0), (.lit [])] [(0, 1, (.t 6)), (1, 1, (.t 10))]) 0
  (.op none (.store 2 (.t 2) (.t 11)) 0
  .nil)))))))) false)
 .ret))),
 [.cell (some 2) 2]⟩
theorem b121 : fnOf Go.Proofs.Try.prog (owOf []) 121 = some c121 := by kernel_rfl

/-- bywash/bywashref01.put -/
def c122 : RFn := ⟨(.seq (.region (Nodes.flat none (.op (some 2) (.box (.t 0)) 0
  (.op (some 4) (.alloc (.agg [(.int .i64 0), (.lit [])])) 0
  .nil))) false)
 (.seq (.region (Nodes.flat none (.op (some 5) (.fieldAddr 1 (.t 2)) 0
  (.op (some 6) (.load none (.t 5)) 1
  (.op (some 7) (.move (.t 1)) 0
  (.op (some 8) (.bin .quo (.t 7) (.c (.int .i64 64))) 4
  (.op (some 9) (.fieldAddr 1 (.t 2)) 0
  (.op (some 10) (.load none (.t 9)) 16
  (.op (some 11) (.move (.t 1)) 0
  (.op (some 12) (.bin .quo (.t 11) (.c (.int .i64 64))) 64
  (.op (some 13) (.idxAddr 1 (.t 10) (.t 12)) 240
  (.op (some 14) (.load none (.t 13)) 496
  (.op (some 15) (.move (.t 1)) 0
  (.op (some 16) (.bin .rem (.t 15) (.c (.int .i64 64))) 1024
  (.op (some 17) (.conv .u64 (.t 16)) 3072
  (.op (some 18) (.bin .shl (.c (.int .u64 1)) (.t 17)) 7168
  (.op (some 19) (.bin .or (.t 14) (.t 18)) 16368
  (.op (some 20) (.idxAddr 1 (.t 6) (.t 8)) 32767
  (.op none (.store 1 (.t 20) (.t 19)) 65535
  .nil)))))))))))))))))) true)
 (.seq (.region (Nodes.flat none (.op (some 21) (.load (some 2) (.t 2)) 0
  (.op none (.store 2 (.t 4) (.t 21)) 0
  .nil))) false)
 .ret))),
 [.cell (some 2) 4]⟩
theorem b122 : fnOf Go.Proofs.Try.prog (owOf []) 122 = some c122 := by kernel_rfl

end Go.Vm
