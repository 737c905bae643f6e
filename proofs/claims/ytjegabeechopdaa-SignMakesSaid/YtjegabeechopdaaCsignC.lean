/- Code. -/
import Derived.Test.YtjegabeechopdaaVnC
import Derived.KernelRfl
import Derived.Test.YtjegabeechopdaaProg
set_option maxRecDepth 100000
set_option linter.unusedSimpArgs false
set_option linter.unusedVariables false
namespace Go.Vm
open Go

/-- bywash/sign.FromFlat -/
def c51 : RFn := ⟨(.seq (.region (Nodes.flat none (.op (some 1) (.box (.t 0)) 0
  (.op (some 2) (.move (.c (.int .i64 0))) 0
  .nil))) false)
 (.seq (.block 0 (.seq (.region (Nodes.flat none (.op (some 4) (.load (some 2) (.t 1)) 0
  (.op (some 5) (.call 24 [(.t 4)]) 0
  (.op (some 6) (.un .not (.t 5)) 0
  (.op (some 7) (.move (.t 6)) 0
  (.grd 7 false
  (.op (some 8) (.fieldAddr 0 (.t 1)) 0
  (.op (some 9) (.load none (.t 8)) 0
  (.op (some 10) (.bin .eql (.t 9) (.c (.int .i64 2))) 0
  .nil)))
  (.op (some 11) (.pick (.t 7) (.c (.bool true)) (.t 10)) 0
  (.op (some 3) (.move (.t 11)) 0
  .nil)))))))) false)
 (.cond (.t 3)
 (.seq (.region (Nodes.flat none (.op (some 2) (.move (.c (.int .i64 7))) 0
  .nil)) false)
 .ret)
 (.seq (.region (Nodes.flat none (.op (some 13) (.fieldAddr 0 (.t 1)) 0
  (.op (some 14) (.load none (.t 13)) 0
  (.op (some 15) (.bin .eql (.t 14) (.c (.int .i64 0))) 0
  (.op (some 12) (.move (.t 15)) 0
  .nil))))) false)
 (.cond (.t 12)
 (.seq (.region (Nodes.flat none (.op (some 2) (.move (.c (.int .i64 0))) 0
  .nil)) false)
 .ret)
 .skip)))))
 (.seq (.region (Nodes.flat none (.op (some 16) (.fieldAddr 1 (.t 1)) 0
  (.op (some 17) (.load none (.t 16)) 0
  (.op (some 18) (.call 45 [(.t 17)]) 0
  (.op (some 2) (.move (.t 18)) 0
  .nil))))) false)
 .ret))),
 [.tmp 2]⟩
theorem b51 : fnOf Go.Proofs.Try.prog (owOf []) 51 = some c51 := by kernel_rfl

/-- bywash/bywashref03.Sane -/
def c55 : RFn := ⟨(.seq (.region (Nodes.flat none (.op (some 2) (.move (.c (.bool false))) 0
  .nil)) false)
 (.seq (.region (Nodes.flat none (.op (some 3) (.move (.t 0)) 0
  (.op (some 4) (.bin .geq (.t 3) (.c (.int .i64 0))) 0
  (.op (some 5) (.move (.t 4)) 0
  (.grd 5 true
  (.op (some 6) (.move (.t 0)) 0
  (.op (some 7) (.bin .leq (.t 6) (.c (.int .i64 7))) 0
  .nil))
  (.op (some 8) (.pick (.t 5) (.t 7) (.c (.bool false))) 0
  (.op (some 2) (.move (.t 8)) 0
  .nil))))))) false)
 .ret)),
 [.tmp 2]⟩
theorem b55 : fnOf Go.Proofs.Try.prog (owOf []) 55 = some c55 := by kernel_rfl

/-- bywash/bywashref03.Of -/
def c56 : RFn := ⟨(.seq (.region (Nodes.flat none (.op (some 2) (.move (.c (.int .i64 0))) 0
  .nil)) false)
 (.seq (.seq (.region (Nodes.flat none (.op (some 3) (.move (.t 0)) 0
  (.op (some 4) (.bin .lss (.t 3) (.c (.int .i64 0))) 0
  .nil))) false)
 (.cond (.t 4)
 (.seq (.region (Nodes.flat none (.op (some 2) (.move (.c (.int .i64 1))) 0
  .nil)) false)
 .ret)
 .skip))
 (.seq (.seq (.region (Nodes.flat none (.op (some 5) (.move (.t 0)) 0
  (.op (some 6) (.bin .eql (.t 5) (.c (.int .i64 0))) 0
  .nil))) false)
 (.cond (.t 6)
 (.seq (.region (Nodes.flat none (.op (some 2) (.move (.c (.int .i64 2))) 0
  .nil)) false)
 .ret)
 .skip))
 (.seq (.region (Nodes.flat none (.op (some 2) (.move (.c (.int .i64 4))) 0
  .nil)) false)
 .ret)))),
 [.tmp 2]⟩
theorem b56 : fnOf Go.Proofs.Try.prog (owOf []) 56 = some c56 := by kernel_rfl

/-- bywash/bywashref03.Join -/
def c57 : RFn := ⟨(.seq (.region (Nodes.flat none (.op (some 4) (.move (.c (.int .i64 0))) 0
  .nil)) false)
 (.seq (.region (Nodes.flat none (.op (some 5) (.move (.t 0)) 0
  (.op (some 6) (.call 102 [(.t 5)]) 0
  (.op (some 7) (.move (.t 1)) 0
  (.op (some 8) (.call 102 [(.t 7)]) 0
  (.op (some 9) (.bin .or (.t 6) (.t 8)) 0
  (.op (some 4) (.move (.t 9)) 0
  .nil))))))) false)
 .ret)),
 [.tmp 4]⟩
theorem b57 : fnOf Go.Proofs.Try.prog (owOf []) 57 = some c57 := by kernel_rfl

/-- bywash/bywashref03.Leq -/
def c58 : RFn := ⟨(.seq (.region (Nodes.flat none (.op (some 4) (.move (.c (.bool false))) 0
  .nil)) false)
 (.seq (.region (Nodes.flat none (.op (some 5) (.move (.t 0)) 0
  (.op (some 6) (.move (.t 1)) 0
  (.op (some 7) (.call 57 [(.t 5), (.t 6)]) 0
  (.op (some 8) (.move (.t 1)) 0
  (.op (some 9) (.call 102 [(.t 8)]) 0
  (.op (some 10) (.bin .eql (.t 7) (.t 9)) 0
  (.op (some 4) (.move (.t 10)) 0
  .nil)))))))) false)
 .ret)),
 [.tmp 4]⟩
theorem b58 : fnOf Go.Proofs.Try.prog (owOf []) 58 = some c58 := by kernel_rfl

/-- bywash/bywashref03.List -/
def c60 : RFn := ⟨(.seq (.region (Nodes.flat none (.op (some 2) (.move (.c (.lit []))) 0
  .nil)) false)
 (.seq (.region (Nodes.flat none (.op (some 3) (.move (.c (.lit []))) 0
  .nil)) false)
 (.seq (.seq (.region (Nodes.flat none (.op (some 4) (.move (.c (.int .i64 (-1)))) 0
  .nil)) false)
 (.block 0 (.loop (.seq (.seq (.region (Nodes.flat none (.op (some 5) (.move (.t 4)) 0
  (.op (some 6) (.bin .leq (.t 5) (.c (.int .i64 1))) 0
  .nil))) false)
 (.cond (.t 6)
 .skip
 (.exit 0)))
 (.seq (.block 1 (.seq (.region (Nodes.flat none (.op (some 9) (.move (.t 0)) 0
  (.op (some 10) (.move (.t 4)) 0
  (.op (some 11) (.call 103 [(.t 9), (.t 10)]) 0
  .nil)))) false)
 (.cond (.t 11)
 (.region (Nodes.flat none (.op (some 12) (.move (.t 3)) 0
  (.op (some 13) (.move (.t 4)) 0
  (.op (some 14) (.bslice false 1 1 (.int .i64 0) [(0, (.t 13))]) 0
  (.op (some 15) (.append 1 (.int .i64 0) (.t 12) (.t 14)) 0
  (.op (some 3) (.move (.t 15)) 0
  .nil)))))) false)
 .skip)))
 (.region (Nodes.flat none (.op (some 7) (.move (.t 4)) 0
  (.op (some 8) (.bin .add (.t 7) (.c (.int .i64 1))) 0
  (.op (some 4) (.move (.t 8)) 0
  .nil)))) false))))))
 (.seq (.region (Nodes.flat none (.op (some 16) (.move (.t 3)) 0
  (.op (some 2) (.move (.t 16)) 0
  .nil))) false)
 .ret)))),
 [.tmp 2]⟩
theorem b60 : fnOf Go.Proofs.Try.prog (owOf [(6, 2)]) 60 = some c60 := by kernel_rfl

/-- bywash/bywashref03.Height -/
def c61 : RFn := ⟨(.seq (.region (Nodes.flat none (.op (some 2) (.move (.c (.int .i64 0))) 0
  .nil)) false)
 (.seq (.region (Nodes.flat none (.op (some 3) (.move (.t 0)) 0
  (.op (some 4) (.call 60 [(.t 3)]) 0
  (.op (some 5) (.len false (.t 4)) 0
  (.op (some 2) (.move (.t 5)) 0
  .nil))))) false)
 .ret)),
 [.tmp 2]⟩
theorem b61 : fnOf Go.Proofs.Try.prog (owOf []) 61 = some c61 := by kernel_rfl

/-- bywash/bywashref03.Neg -/
def c62 : RFn := ⟨(.seq (.region (Nodes.flat none (.op (some 2) (.move (.c (.int .i64 0))) 0
  .nil)) false)
 (.seq (.region (Nodes.flat none (.op (some 3) (.move (.c (.int .i64 0))) 0
  .nil)) false)
 (.seq (.region (Nodes.flat none (.op (some 6) (.move (.t 0)) 0
  (.op (some 7) (.call 60 [(.t 6)]) 0
  (.op (some 4) (.move (.t 7)) 0
  .nil)))) false)
 (.seq (.seq (.region (Nodes.flat none (.op (some 5) (.move (.c (.int .i64 0))) 0
  .nil)) false)
 (.block 0 (.loop (.seq (.seq (.region (Nodes.flat none (.op (some 8) (.move (.t 5)) 0
  (.op (some 9) (.move (.t 4)) 0
  (.op (some 10) (.len false (.t 9)) 0
  (.op (some 11) (.bin .lss (.t 8) (.t 10)) 0
  .nil))))) false)
 (.cond (.t 11)
 .skip
 (.exit 0)))
 (.seq (.block 1 (.region (Nodes.flat none (.op (some 14) (.move (.t 3)) 0
  (.op (some 15) (.move (.t 4)) 0
  (.op (some 16) (.move (.t 5)) 0
  (.op (some 17) (.idxAddr 1 (.t 15) (.t 16)) 0
  (.op (some 18) (.load none (.t 17)) 0
  (.op (some 19) (.un .neg (.t 18)) 0
  (.op (some 20) (.call 56 [(.t 19)]) 0
  (.op (some 21) (.bin .or (.t 14) (.t 20)) 0
  (.op (some 3) (.move (.t 21)) 0
  .nil)))))))))) false))
 (.region (Nodes.flat none (.op (some 12) (.move (.t 5)) 0
  (.op (some 13) (.bin .add (.t 12) (.c (.int .i64 1))) 0
  (.op (some 5) (.move (.t 13)) 0
  .nil)))) false))))))
 (.seq (.region (Nodes.flat none (.op (some 22) (.move (.t 3)) 0
  (.op (some 2) (.move (.t 22)) 0
  .nil))) false)
 .ret))))),
 [.tmp 2]⟩
theorem b62 : fnOf Go.Proofs.Try.prog (owOf []) 62 = some c62 := by kernel_rfl

/-- bywash/bywashref03.Add -/
def c63 : RFn := ⟨(.seq (.region (Nodes.flat none (.op (some 4) (.move (.c (.int .i64 0))) 0
  .nil)) false)
 (.seq (.region (Nodes.flat none (.op (some 5) (.move (.t 0)) 0
  (.op (some 6) (.move (.t 1)) 0
  (.op (some 7) (.call 104 [(.t 5), (.t 6), (.c (.bool false))]) 0
  (.op (some 4) (.move (.t 7)) 0
  .nil))))) false)
 .ret)),
 [.tmp 4]⟩
theorem b63 : fnOf Go.Proofs.Try.prog (owOf []) 63 = some c63 := by kernel_rfl

/-- bywash/bywashref03.Sub -/
def c64 : RFn := ⟨(.seq (.region (Nodes.flat none (.op (some 4) (.move (.c (.int .i64 0))) 0
  .nil)) false)
 (.seq (.region (Nodes.flat none (.op (some 5) (.move (.t 0)) 0
  (.op (some 6) (.move (.t 1)) 0
  (.op (some 7) (.call 62 [(.t 6)]) 0
  (.op (some 8) (.call 104 [(.t 5), (.t 7), (.c (.bool false))]) 0
  (.op (some 4) (.move (.t 8)) 0
  .nil)))))) false)
 .ret)),
 [.tmp 4]⟩
theorem b64 : fnOf Go.Proofs.Try.prog (owOf []) 64 = some c64 := by kernel_rfl

/-- bywash/bywashref03.Mul -/
def c65 : RFn := ⟨(.seq (.region (Nodes.flat none (.op (some 4) (.move (.c (.int .i64 0))) 0
  .nil)) false)
 (.seq (.region (Nodes.flat none (.op (some 5) (.move (.t 0)) 0
  (.op (some 6) (.move (.t 1)) 0
  (.op (some 7) (.call 104 [(.t 5), (.t 6), (.c (.bool true))]) 0
  (.op (some 4) (.move (.t 7)) 0
  .nil))))) false)
 .ret)),
 [.tmp 4]⟩
theorem b65 : fnOf Go.Proofs.Try.prog (owOf []) 65 = some c65 := by kernel_rfl

/-- bywash/bywashref03.FromFlat -/
def c66 : RFn := ⟨(.seq (.region (Nodes.flat none (.op (some 1) (.box (.t 0)) 0
  (.op (some 2) (.move (.c (.int .i64 0))) 0
  .nil))) false)
 (.seq (.seq (.region (Nodes.flat none (.op (some 3) (.load (some 2) (.t 1)) 0
  (.op (some 4) (.call 31 [(.t 3)]) 0
  (.op (some 5) (.un .not (.t 4)) 0
  (.op (some 6) (.move (.t 5)) 0
  (.grd 6 false
  (.op (some 7) (.fieldAddr 0 (.t 1)) 0
  (.op (some 8) (.load none (.t 7)) 0
  (.op (some 9) (.bin .eql (.t 8) (.c (.int .i64 2))) 0
  .nil)))
  (.op (some 10) (.pick (.t 6) (.c (.bool true)) (.t 9)) 0
  .nil))))))) false)
 (.cond (.t 10)
 (.seq (.region (Nodes.flat none (.op (some 2) (.move (.c (.int .i64 7))) 0
  .nil)) false)
 .ret)
 .skip))
 (.seq (.seq (.region (Nodes.flat none (.op (some 11) (.fieldAddr 0 (.t 1)) 0
  (.op (some 12) (.load none (.t 11)) 0
  (.op (some 13) (.bin .eql (.t 12) (.c (.int .i64 0))) 0
  .nil)))) false)
 (.cond (.t 13)
 (.seq (.region (Nodes.flat none (.op (some 2) (.move (.c (.int .i64 0))) 0
  .nil)) false)
 .ret)
 .skip))
 (.seq (.region (Nodes.flat none (.op (some 14) (.fieldAddr 1 (.t 1)) 0
  (.op (some 15) (.load none (.t 14)) 0
  (.op (some 16) (.call 56 [(.t 15)]) 0
  (.op (some 2) (.move (.t 16)) 0
  .nil))))) false)
 .ret)))),
 [.tmp 2]⟩
theorem b66 : fnOf Go.Proofs.Try.prog (owOf []) 66 = some c66 := by kernel_rfl

/-- bywash/bywashref03.sane -/
def c102 : RFn := ⟨(.seq (.region (Nodes.flat none (.op (some 2) (.move (.c (.int .i64 0))) 0
  .nil)) false)
 (.seq (.seq (.region (Nodes.flat none (.op (some 3) (.move (.t 0)) 0
  (.op (some 4) (.call 55 [(.t 3)]) 0
  (.op (some 5) (.un .not (.t 4)) 0
  .nil)))) false)
 (.cond (.t 5)
 (.seq (.region (Nodes.flat none (.op (some 2) (.move (.c (.int .i64 7))) 0
  .nil)) false)
 .ret)
 .skip))
 (.seq (.region (Nodes.flat none (.op (some 6) (.move (.t 0)) 0
  (.op (some 2) (.move (.t 6)) 0
  .nil))) false)
 .ret))),
 [.tmp 2]⟩
theorem b102 : fnOf Go.Proofs.Try.prog (owOf []) 102 = some c102 := by kernel_rfl

/-- bywash/bywashref03.has -/
def c103 : RFn := ⟨(.seq (.region (Nodes.flat none (.op (some 4) (.move (.c (.bool false))) 0
  .nil)) false)
 (.seq (.region (Nodes.flat none (.op (some 5) (.move (.t 0)) 0
  (.op (some 6) (.call 102 [(.t 5)]) 0
  (.op (some 7) (.move (.t 1)) 0
  (.op (some 8) (.call 56 [(.t 7)]) 0
  (.op (some 9) (.bin .and (.t 6) (.t 8)) 0
  (.op (some 10) (.bin .neq (.t 9) (.c (.int .i64 0))) 0
  (.op (some 4) (.move (.t 10)) 0
  .nil)))))))) false)
 .ret)),
 [.tmp 4]⟩
theorem b103 : fnOf Go.Proofs.Try.prog (owOf []) 103 = some c103 := by kernel_rfl

/-- bywash/bywashref03.pairs -/
def c104 : RFn := ⟨(.seq (.region (Nodes.flat none (.op (some 6) (.move (.c (.int .i64 0))) 0
  .nil)) false)
 (.seq (.region (Nodes.flat none (.op (some 7) (.move (.c (.int .i64 0))) 0
  .nil)) false)
 (.seq (.region (Nodes.flat none (.op (some 12) (.move (.t 0)) 0
  (.op (some 13) (.call 117 [(.t 12)]) 0
  (.op (some 8) (.move (.t 13)) 0
  .nil)))) false)
 (.seq (.region (Nodes.flat none (.op (some 14) (.move (.t 1)) 0
  (.op (some 15) (.call 117 [(.t 14)]) 0
  (.op (some 9) (.move (.t 15)) 0
  .nil)))) false)
 (.seq (.seq (.region (Nodes.flat none (.op (some 10) (.move (.c (.int .i64 0))) 0
  .nil)) false)
 (.block 0 (.loop (.seq (.seq (.region (Nodes.flat none (.op (some 16) (.move (.t 10)) 0
  (.op (some 17) (.move (.t 8)) 0
  (.op (some 18) (.len false (.t 17)) 0
  (.op (some 19) (.bin .lss (.t 16) (.t 18)) 0
  .nil))))) false)
 (.cond (.t 19)
 .skip
 (.exit 0)))
 (.seq (.block 1 (.seq (.region (Nodes.flat none (.op (some 11) (.move (.c (.int .i64 0))) 0
  .nil)) false)
 (.block 2 (.loop (.seq (.seq (.region (Nodes.flat none (.op (some 22) (.move (.t 11)) 0
  (.op (some 23) (.move (.t 9)) 0
  (.op (some 24) (.len false (.t 23)) 0
  (.op (some 25) (.bin .lss (.t 22) (.t 24)) 0
  .nil))))) false)
 (.cond (.t 25)
 .skip
 (.exit 2)))
 (.seq (.block 3 (.seq (.region (Nodes.flat none (.op (some 28) (.move (.t 2)) 0
  .nil)) false)
 (.cond (.t 28)
 (.region (Nodes.flat none (.op (some 29) (.move (.t 7)) 0
  (.op (some 30) (.move (.t 8)) 0
  (.op (some 31) (.move (.t 10)) 0
  (.op (some 32) (.idxAddr 1 (.t 30) (.t 31)) 6
  (.op (some 33) (.load none (.t 32)) 14
  (.op (some 34) (.move (.t 9)) 0
  (.op (some 35) (.move (.t 11)) 0
  (.op (some 36) (.idxAddr 1 (.t 34) (.t 35)) 96
  (.op (some 37) (.load none (.t 36)) 224
  (.op (some 38) (.bin .mul (.t 33) (.t 37)) 510
  (.op (some 39) (.call 56 [(.t 38)]) 1022
  (.op (some 40) (.bin .or (.t 29) (.t 39)) 2047
  (.op (some 7) (.move (.t 40)) 4095
  .nil)))))))))))))) true)
 (.region (Nodes.flat none (.op (some 41) (.move (.t 7)) 0
  (.op (some 42) (.move (.t 8)) 0
  (.op (some 43) (.move (.t 10)) 0
  (.op (some 44) (.idxAddr 1 (.t 42) (.t 43)) 6
  (.op (some 45) (.load none (.t 44)) 14
  (.op (some 46) (.move (.t 9)) 0
  (.op (some 47) (.move (.t 11)) 0
  (.op (some 48) (.idxAddr 1 (.t 46) (.t 47)) 96
  (.op (some 49) (.load none (.t 48)) 224
  (.op (some 50) (.bin .add (.t 45) (.t 49)) 510
  (.op (some 51) (.call 56 [(.t 50)]) 1022
  (.op (some 52) (.bin .or (.t 41) (.t 51)) 2047
  (.op (some 7) (.move (.t 52)) 4095
  .nil)))))))))))))) true))))
 (.region (Nodes.flat none (.op (some 26) (.move (.t 11)) 0
  (.op (some 27) (.bin .add (.t 26) (.c (.int .i64 1))) 0
  (.op (some 11) (.move (.t 27)) 0
  .nil)))) false)))))))
 (.region (Nodes.flat none (.op (some 20) (.move (.t 10)) 0
  (.op (some 21) (.bin .add (.t 20) (.c (.int .i64 1))) 0
  (.op (some 10) (.move (.t 21)) 0
  .nil)))) false))))))
 (.seq (.region (Nodes.flat none (.op (some 53) (.move (.t 7)) 0
  (.op (some 6) (.move (.t 53)) 0
  .nil))) false)
 .ret)))))),
 [.tmp 6]⟩
theorem b104 : fnOf Go.Proofs.Try.prog (owOf []) 104 = some c104 := by kernel_rfl

/-- bywash/bywashref03.some -/
def c117 : RFn := ⟨(.seq (.region (Nodes.flat none (.op (some 2) (.move (.c (.lit []))) 0
  .nil)) false)
 (.seq (.region (Nodes.flat none (.op (some 3) (.move (.c (.lit []))) 0
  .nil)) false)
 (.seq (.seq (.region (Nodes.flat none (.op (some 4) (.move (.c (.int .i64 (-2)))) 0
  .nil)) false)
 (.block 0 (.loop (.seq (.seq (.region (Nodes.flat none (.op (some 5) (.move (.t 4)) 0
  (.op (some 6) (.bin .leq (.t 5) (.c (.int .i64 2))) 0
  .nil))) false)
 (.cond (.t 6)
 .skip
 (.exit 0)))
 (.seq (.block 1 (.seq (.region (Nodes.flat none (.op (some 9) (.move (.t 0)) 0
  (.op (some 10) (.move (.t 4)) 0
  (.op (some 11) (.call 103 [(.t 9), (.t 10)]) 0
  .nil)))) false)
 (.cond (.t 11)
 (.region (Nodes.flat none (.op (some 12) (.move (.t 3)) 0
  (.op (some 13) (.move (.t 4)) 0
  (.op (some 14) (.bslice false 1 1 (.int .i64 0) [(0, (.t 13))]) 0
  (.op (some 15) (.append 1 (.int .i64 0) (.t 12) (.t 14)) 0
  (.op (some 3) (.move (.t 15)) 0
  .nil)))))) false)
 .skip)))
 (.region (Nodes.flat none (.op (some 7) (.move (.t 4)) 0
  (.op (some 8) (.bin .add (.t 7) (.c (.int .i64 1))) 0
  (.op (some 4) (.move (.t 8)) 0
  .nil)))) false))))))
 (.seq (.region (Nodes.flat none (.op (some 16) (.move (.t 3)) 0
  (.op (some 2) (.move (.t 16)) 0
  .nil))) false)
 .ret)))),
 [.tmp 2]⟩
theorem b117 : fnOf Go.Proofs.Try.prog (owOf [(6, 2)]) 117 = some c117 := by kernel_rfl

end Go.Vm
