/- Laid. -/
import Derived.Test.YtlllcmahmgdppaaDoorVmThree
import Derived.KernelRfl
import Derived.Test.YtlllcmahmgdppaaDoorProg
import Derived.Test.YtlllcmahmgdppaaDoorXprogA
section
/- Code. -/
set_option maxRecDepth 100000
set_option linter.unusedSimpArgs false
set_option linter.unusedVariables false
namespace Go.Vm
open Go
def c8 : RFn := ⟨(.seq (.region (Nodes.flat none (.op (some 1) (.box (.t 0)) 0
  (.op (some 2) (.move (.c (.bool false))) 0
  .nil))) false)
 (.seq (.region (Nodes.flat none (.op (some 3) (.alloc .nilp) 0
  .nil)) false)
 (.seq (.region (Nodes.flat none (.op (some 4) (.load (some 1) (.t 1)) 0
  (.op (some 5) (.call 17 [(.t 4)]) 0
  (.op (some 6) (.prim (.mkif 55) [(.t 3)]) 0
  (.op (some 7) (.call 16 [(.t 5), (.t 6)]) 0
  (.op (some 8) (.un .not (.t 7)) 0
  (.op (some 2) (.move (.t 8)) 0
  .nil))))))) false)
 .ret))),
 [.tmp 2]⟩
theorem b8 : fnOf Go.Proofs.Tryd.prog (owOf []) 8 = some c8 := by kernel_rfl
def c12 : RFn := ⟨(.seq (.region (Nodes.flat none (.op (some 2) (.box (.t 0)) 0
  (.op (some 4) (.alloc (.agg [(.int .i64 0), (.int .i64 0), (.lit [])])) 0
  (.op (some 5) (.move (.c (.bool false))) 0
  .nil)))) false)
 (.seq (.seq (.region (Nodes.flat none (.op (some 6) (.move (.t 1)) 0
  (.op (some 7) (.bin .lss (.t 6) (.c (.int .i64 0))) 0
  (.op (some 8) (.move (.t 7)) 0
  (.grd 8 false
  (.op (some 9) (.move (.t 1)) 0
  (.op (some 10) (.fieldAddr 0 (.t 2)) 0
  (.op (some 11) (.load none (.t 10)) 0
  (.op (some 12) (.len false (.t 11)) 0
  (.op (some 13) (.bin .geq (.t 9) (.t 12)) 0
  .nil)))))
  (.op (some 14) (.pick (.t 8) (.c (.bool true)) (.t 13)) 0
  (.op (some 15) (.move (.t 14)) 0
  (.grd 15 false
  (.op (some 16) (.load (some 1) (.t 2)) 0
  (.op (some 17) (.call 8 [(.t 16)]) 0
  (.op (some 18) (.un .not (.t 17)) 0
  .nil)))
  (.op (some 19) (.pick (.t 15) (.c (.bool true)) (.t 18)) 0
  .nil))))))))) false)
 (.cond (.t 19)
 (.seq (.region (Nodes.flat none (.op (some 20) (.build [(.int .i64 0), (.int .i64 0), (.lit [])] []) 0
  (.op none (.store 3 (.t 4) (.t 20)) 0
  (.op (some 5) (.move (.c (.bool false))) 0
  .nil)))) false)
 .ret)
 .skip))
 (.seq (.region (Nodes.flat none (.op (some 21) (.fieldAddr 0 (.t 2)) 0
  (.op (some 22) (.load none (.t 21)) 0
  (.op (some 23) (.move (.t 1)) 0
  (.op (some 24) (.idxAddr 3 (.t 22) (.t 23)) 0
  (.op (some 25) (.load (some 3) (.t 24)) 0
  (.op none (.store 3 (.t 4) (.t 25)) 0
  (.op (some 5) (.move (.c (.bool true))) 0
  .nil)))))))) false)
 .ret))),
 [.cell (some 3) 4, .tmp 5]⟩
theorem b12 : fnOf Go.Proofs.Tryd.prog (owOf []) 12 = some c12 := by kernel_rfl
def c13 : RFn := ⟨(.seq (.region (Nodes.flat none (.op (some 3) (.box (.t 0)) 0
  (.op (some 6) (.alloc (.agg [(.bool false), (.lit []), (.lit [])])) 0
  (.op (some 7) (.move (.c (.bool false))) 0
  .nil)))) false)
 (.seq (.region (Nodes.flat none (.op (some 11) (.load (some 1) (.t 3)) 0
  (.op (some 12) (.move (.t 1)) 0
  (.op (some 13) (.call 12 [(.t 11), (.t 12)]) 0
  (.op (some 10) (.move (.t 13)) 0
  (.op (some 14) (.extract 0 (.t 10)) 0
  (.op (some 15) (.extract 1 (.t 10)) 0
  (.op (some 8) (.alloc (.agg [(.int .i64 0), (.int .i64 0), (.lit [])])) 0
  (.op none (.store 3 (.t 8) (.t 14)) 0
  (.op (some 9) (.move (.t 15)) 0
  .nil)))))))))) false)
 (.seq (.seq (.region (Nodes.flat none (.op (some 16) (.load (some 3) (.t 8)) 0
  (.op (some 17) (.move (.t 2)) 0
  (.op (some 18) (.call 21 [(.t 16), (.t 17)]) 0
  (.op (some 19) (.un .not (.t 18)) 0
  .nil))))) false)
 (.cond (.t 19)
 (.seq (.region (Nodes.flat none (.op (some 20) (.build [(.bool false), (.lit []), (.lit [])] []) 0
  (.op none (.store 3 (.t 6) (.t 20)) 0
  (.op (some 7) (.move (.c (.bool false))) 0
  .nil)))) false)
 .ret)
 .skip))
 (.seq (.region (Nodes.flat none (.op (some 21) (.fieldAddr 2 (.t 8)) 0
  (.op (some 22) (.load none (.t 21)) 0
  (.op (some 23) (.move (.t 2)) 0
  (.op (some 24) (.idxAddr 3 (.t 22) (.t 23)) 0
  (.op (some 25) (.load (some 3) (.t 24)) 0
  (.op none (.store 3 (.t 6) (.t 25)) 0
  (.op (some 7) (.move (.c (.bool true))) 0
  .nil)))))))) false)
 .ret)))),
 [.cell (some 3) 6, .tmp 7]⟩
theorem b13 : fnOf Go.Proofs.Tryd.prog (owOf []) 13 = some c13 := by kernel_rfl
def c17 : RFn := ⟨(.seq (.region (Nodes.flat none (.op (some 1) (.box (.t 0)) 0
  (.op (some 2) (.move (.c .nili)) 0
  .nil))) false)
 (.seq (.seq (.region (Nodes.flat none (.op (some 11) (.fieldAddr 0 (.t 1)) 0
  (.op (some 12) (.load none (.t 11)) 0
  (.op (some 13) (.len false (.t 12)) 0
  (.op (some 14) (.bin .gtr (.t 13) (.c (.int .i64 6))) 0
  .nil))))) false)
 (.cond (.t 14)
 (.seq (.region (Nodes.flat none (.op (some 15) (.fieldAddr 0 (.t 1)) 0
  (.op (some 16) (.load none (.t 15)) 0
  (.op (some 17) (.len false (.t 16)) 0
  (.op (some 18) (.build [(.str ⟨#[]⟩), (.int .i64 0)] [(0, 1, (.c (.str ⟨#[116, 111, 111, 32, 109, 97, 110, 121, 32, 102, 117, 110, 99, 116, 105, 111, 110, 115]⟩))), (1, 1, (.t 17))]) 0
  (.op (some 19) (.box (.t 18)) 0
  (.op (some 20) (.prim (.mkif 50) [(.t 19)]) 0
  (.op (some 2) (.move (.t 20)) 0
  .nil)))))))) false)
 .ret)
 .skip))
 (.seq (.region (Nodes.flat none (.op (some 21) (.eprim .mkmap []) 0
  (.op (some 3) (.move (.t 21)) 0
  .nil))) false)
 (.seq (.seq (.region (Nodes.flat none (.op (some 22) (.fieldAddr 0 (.t 1)) 0
  (.op (some 23) (.load none (.t 22)) 0
  (.op (some 24) (.len false (.t 23)) 0
  (.op (some 25) (.move (.c (.int .i64 0))) 0
  .nil))))) false)
 (.block 0 (.loop (.seq (.region (Nodes.flat none (.op (some 26) (.bin .lss (.t 25) (.t 24)) 0
  .nil)) false)
 (.seq (.cond (.t 26)
 .skip
 (.exit 0))
 (.seq (.block 1 (.seq (.region (Nodes.flat none (.op (some 27) (.move (.t 25)) 0
  (.op (some 28) (.idxAddr 3 (.t 23) (.t 25)) 0
  (.op (some 29) (.load (some 3) (.t 28)) 0
  (.op (some 5) (.alloc (.agg [(.int .i64 0), (.int .i64 0), (.lit [])])) 0
  (.op (some 4) (.move (.t 27)) 0
  (.op none (.store 3 (.t 5) (.t 29)) 0
  .nil))))))) false)
 (.seq (.seq (.region (Nodes.flat none (.op (some 30) (.load (some 1) (.t 1)) 0
  (.op (some 31) (.load (some 3) (.t 5)) 0
  (.op (some 32) (.call 27 [(.t 30), (.t 31)]) 0
  (.op (some 6) (.move (.t 32)) 0
  .nil))))) false)
 (.seq (.region (Nodes.flat none (.op (some 33) (.move (.t 6)) 0
  (.op (some 34) (.bin .neq (.t 33) (.c (.str ⟨#[]⟩))) 0
  .nil))) false)
 (.cond (.t 34)
 (.seq (.region (Nodes.flat none (.op (some 35) (.move (.t 6)) 0
  (.op (some 36) (.move (.t 4)) 0
  (.op (some 37) (.build [(.str ⟨#[]⟩), (.int .i64 0)] [(0, 1, (.t 35)), (1, 1, (.t 36))]) 0
  (.op (some 38) (.box (.t 37)) 0
  (.op (some 39) (.prim (.mkif 50) [(.t 38)]) 0
  (.op (some 2) (.move (.t 39)) 0
  .nil))))))) false)
 .ret)
 .skip)))
 (.seq (.region (Nodes.flat none (.op (some 40) (.fieldAddr 2 (.t 5)) 0
  (.op (some 41) (.load none (.t 40)) 0
  (.op (some 42) (.len false (.t 41)) 0
  (.op (some 43) (.move (.c (.int .i64 0))) 0
  .nil))))) false)
 (.block 2 (.loop (.seq (.region (Nodes.flat none (.op (some 44) (.bin .lss (.t 43) (.t 42)) 0
  .nil)) false)
 (.seq (.cond (.t 44)
 .skip
 (.exit 2))
 (.seq (.block 3 (.seq (.region (Nodes.flat none (.op (some 45) (.idxAddr 3 (.t 41) (.t 43)) 0
  (.op (some 46) (.load (some 3) (.t 45)) 0
  (.op (some 8) (.alloc (.agg [(.bool false), (.lit []), (.lit [])])) 0
  (.op none (.store 3 (.t 8) (.t 46)) 0
  .nil))))) false)
 (.seq (.region (Nodes.flat none (.op (some 47) (.fieldAddr 1 (.t 8)) 0
  (.op (some 48) (.load none (.t 47)) 0
  (.op (some 49) (.len false (.t 48)) 0
  (.op (some 50) (.move (.c (.int .i64 0))) 0
  .nil))))) false)
 (.block 4 (.loop (.seq (.region (Nodes.flat none (.op (some 51) (.bin .lss (.t 50) (.t 49)) 0
  .nil)) false)
 (.seq (.cond (.t 51)
 .skip
 (.exit 4))
 (.seq (.block 5 (.seq (.region (Nodes.flat none (.op (some 52) (.idxAddr 11 (.t 48) (.t 50)) 0
  (.op (some 53) (.load (some 11) (.t 52)) 0
  (.op (some 10) (.alloc (.agg [(.int .i64 0), (.int .i64 0), (.int .i64 0), (.int .i64 0), (.int .i64 0), (.int .i64 0), (.int .i64 0), (.int .i64 0), (.int .i64 0), (.int .i64 0), (.int .i64 0)])) 0
  (.op none (.store 11 (.t 10) (.t 53)) 0
  .nil))))) false)
 (.seq (.seq (.region (Nodes.flat none (.op (some 54) (.move (.t 3)) 0
  (.op (some 55) (.fieldAddr 0 (.t 10)) 0
  (.op (some 56) (.load none (.t 55)) 0
  (.op (some 57) (.prim .mapget [(.t 54), (.t 56)]) 0
  .nil))))) false)
 (.cond (.t 57)
 (.seq (.region (Nodes.flat none (.op (some 58) (.move (.t 4)) 0
  (.op (some 59) (.build [(.str ⟨#[]⟩), (.int .i64 0)] [(0, 1, (.c (.str ⟨#[97, 32, 110, 117, 109, 98, 101, 114, 32, 116, 119, 105, 99, 101]⟩))), (1, 1, (.t 58))]) 0
  (.op (some 60) (.box (.t 59)) 0
  (.op (some 61) (.prim (.mkif 50) [(.t 60)]) 0
  (.op (some 2) (.move (.t 61)) 0
  .nil)))))) false)
 .ret)
 .skip))
 (.region (Nodes.flat none (.op (some 62) (.move (.t 3)) 0
  (.op (some 63) (.fieldAddr 0 (.t 10)) 0
  (.op (some 64) (.load none (.t 63)) 0
  (.op none (.eprim .mapset [(.t 62), (.t 64), (.c (.bool true))]) 0
  .nil))))) false))))
 (.region (Nodes.flat none (.op (some 65) (.bin .add (.t 50) (.c (.int .i64 1))) 0
  (.op (some 50) (.move (.t 65)) 0
  .nil))) false)))))))))
 (.region (Nodes.flat none (.op (some 66) (.bin .add (.t 43) (.c (.int .i64 1))) 0
  (.op (some 43) (.move (.t 66)) 0
  .nil))) false))))))))))
 (.region (Nodes.flat none (.op (some 67) (.bin .add (.t 25) (.c (.int .i64 1))) 0
  (.op (some 25) (.move (.t 67)) 0
  .nil))) false)))))))
 (.seq (.region (Nodes.flat none (.op (some 2) (.move (.c .nili)) 0
  .nil)) false)
 .ret))))),
 [.tmp 2]⟩
theorem b17 : fnOf Go.Proofs.Tryd.prog (owOf []) 17 = some c17 := by kernel_rfl
def c27 : RFn := ⟨(.seq (.region (Nodes.flat none (.op (some 2) (.box (.t 0)) 0
  (.op (some 3) (.box (.t 1)) 0
  (.op (some 4) (.move (.c (.str ⟨#[]⟩))) 0
  .nil)))) false)
 (.seq (.region (Nodes.flat none (.op (some 9) (.fieldAddr 2 (.t 3)) 0
  (.op (some 10) (.load none (.t 9)) 0
  (.op (some 11) (.len false (.t 10)) 0
  (.op (some 5) (.move (.t 11)) 0
  .nil))))) false)
 (.seq (.block 0 (.seq (.region (Nodes.flat none (.op (some 13) (.fieldAddr 0 (.t 3)) 0
  (.op (some 14) (.load none (.t 13)) 0
  (.op (some 15) (.bin .lss (.t 14) (.c (.int .i64 0))) 0
  (.op (some 16) (.move (.t 15)) 0
  (.grd 16 false
  (.op (some 17) (.fieldAddr 0 (.t 3)) 0
  (.op (some 18) (.load none (.t 17)) 0
  (.op (some 19) (.bin .gtr (.t 18) (.c (.int .i64 3))) 0
  .nil)))
  (.op (some 20) (.pick (.t 16) (.c (.bool true)) (.t 19)) 0
  (.op (some 21) (.move (.t 20)) 0
  (.grd 21 false
  (.op (some 22) (.fieldAddr 1 (.t 3)) 0
  (.op (some 23) (.load none (.t 22)) 0
  (.op (some 24) (.fieldAddr 0 (.t 3)) 0
  (.op (some 25) (.load none (.t 24)) 0
  (.op (some 26) (.bin .lss (.t 23) (.t 25)) 0
  .nil)))))
  (.op (some 27) (.pick (.t 21) (.c (.bool true)) (.t 26)) 0
  (.op (some 28) (.move (.t 27)) 0
  (.grd 28 false
  (.op (some 29) (.fieldAddr 1 (.t 3)) 0
  (.op (some 30) (.load none (.t 29)) 0
  (.op (some 31) (.bin .gtr (.t 30) (.c (.int .i64 6))) 0
  .nil)))
  (.op (some 32) (.pick (.t 28) (.c (.bool true)) (.t 31)) 0
  (.op (some 12) (.move (.t 32)) 0
  .nil)))))))))))))) false)
 (.cond (.t 12)
 (.seq (.region (Nodes.flat none (.op (some 4) (.move (.c (.str ⟨#[118, 97, 114, 105, 97, 98, 108, 101, 115]⟩))) 0
  .nil)) false)
 .ret)
 (.seq (.region (Nodes.flat none (.op (some 34) (.move (.t 5)) 0
  (.op (some 35) (.bin .lss (.t 34) (.c (.int .i64 1))) 0
  (.op (some 36) (.move (.t 35)) 0
  (.grd 36 false
  (.op (some 37) (.move (.t 5)) 0
  (.op (some 38) (.bin .gtr (.t 37) (.c (.int .i64 12))) 0
  .nil))
  (.op (some 39) (.pick (.t 36) (.c (.bool true)) (.t 38)) 0
  (.op (some 40) (.move (.t 39)) 0
  (.grd 40 false
  (.op (some 41) (.fieldAddr 2 (.t 3)) 0
  (.op (some 42) (.load none (.t 41)) 0
  (.op (some 43) (.idxAddr 3 (.t 42) (.c (.int .i64 0))) 0
  (.op (some 44) (.fieldAddr 0 (.t 43)) 0
  (.op (some 45) (.load none (.t 44)) 0
  (.op (some 46) (.un .not (.t 45)) 0
  .nil))))))
  (.op (some 47) (.pick (.t 40) (.c (.bool true)) (.t 46)) 0
  (.op (some 48) (.move (.t 47)) 0
  (.grd 48 false
  (.op (some 49) (.fieldAddr 2 (.t 3)) 0
  (.op (some 50) (.load none (.t 49)) 0
  (.op (some 51) (.move (.t 5)) 0
  (.op (some 52) (.bin .sub (.t 51) (.c (.int .i64 1))) 0
  (.op (some 53) (.idxAddr 3 (.t 50) (.t 52)) 0
  (.op (some 54) (.fieldAddr 0 (.t 53)) 0
  (.op (some 55) (.load none (.t 54)) 0
  (.op (some 56) (.un .not (.t 55)) 0
  .nil))))))))
  (.op (some 57) (.pick (.t 48) (.c (.bool true)) (.t 56)) 0
  (.op (some 33) (.move (.t 57)) 0
  .nil))))))))))))) false)
 (.cond (.t 33)
 (.seq (.region (Nodes.flat none (.op (some 4) (.move (.c (.str ⟨#[98, 108, 111, 99, 107, 115]⟩))) 0
  .nil)) false)
 .ret)
 .skip)))))
 (.seq (.seq (.region (Nodes.flat none (.op (some 58) (.fieldAddr 2 (.t 3)) 0
  (.op (some 59) (.load none (.t 58)) 0
  (.op (some 60) (.len false (.t 59)) 0
  (.op (some 61) (.move (.c (.int .i64 0))) 0
  .nil))))) false)
 (.block 1 (.loop (.seq (.region (Nodes.flat none (.op (some 62) (.bin .lss (.t 61) (.t 60)) 0
  .nil)) false)
 (.seq (.cond (.t 62)
 .skip
 (.exit 1))
 (.seq (.block 2 (.seq (.region (Nodes.flat none (.op (some 63) (.idxAddr 3 (.t 59) (.t 61)) 0
  (.op (some 64) (.load (some 3) (.t 63)) 0
  (.op (some 7) (.alloc (.agg [(.bool false), (.lit []), (.lit [])])) 0
  (.op none (.store 3 (.t 7) (.t 64)) 0
  .nil))))) false)
 (.seq (.region (Nodes.flat none (.op (some 65) (.load (some 1) (.t 2)) 0
  (.op (some 66) (.load (some 3) (.t 3)) 0
  (.op (some 67) (.load (some 3) (.t 7)) 0
  (.op (some 68) (.call 32 [(.t 65), (.t 66), (.t 67)]) 0
  (.op (some 8) (.move (.t 68)) 0
  .nil)))))) false)
 (.seq (.region (Nodes.flat none (.op (some 69) (.move (.t 8)) 0
  (.op (some 70) (.bin .neq (.t 69) (.c (.str ⟨#[]⟩))) 0
  .nil))) false)
 (.cond (.t 70)
 (.seq (.region (Nodes.flat none (.op (some 71) (.move (.t 8)) 0
  (.op (some 4) (.move (.t 71)) 0
  .nil))) false)
 .ret)
 .skip)))))
 (.region (Nodes.flat none (.op (some 72) (.bin .add (.t 61) (.c (.int .i64 1))) 0
  (.op (some 61) (.move (.t 72)) 0
  .nil))) false)))))))
 (.seq (.region (Nodes.flat none (.op (some 4) (.move (.c (.str ⟨#[]⟩))) 0
  .nil)) false)
 .ret))))),
 [.tmp 4]⟩
theorem b27 : fnOf Go.Proofs.Tryd.prog (owOf []) 27 = some c27 := by kernel_rfl
def c32 : RFn := ⟨(.seq (.region (Nodes.flat none (.op (some 3) (.box (.t 0)) 0
  (.op (some 4) (.box (.t 1)) 0
  (.op (some 5) (.box (.t 2)) 0
  (.op (some 6) (.move (.c (.str ⟨#[]⟩))) 0
  .nil))))) false)
 (.seq (.block 0 (.seq (.region (Nodes.flat none (.op (some 8) (.fieldAddr 0 (.t 5)) 0
  (.op (some 9) (.load none (.t 8)) 0
  (.op (some 10) (.un .not (.t 9)) 0
  (.op (some 11) (.move (.t 10)) 0
  (.grd 11 true
  (.op (some 12) (.fieldAddr 1 (.t 5)) 0
  (.op (some 13) (.load none (.t 12)) 0
  (.op (some 14) (.len false (.t 13)) 0
  (.op (some 15) (.fieldAddr 2 (.t 5)) 0
  (.op (some 16) (.load none (.t 15)) 0
  (.op (some 17) (.len false (.t 16)) 0
  (.op (some 18) (.bin .add (.t 14) (.t 17)) 0
  (.op (some 19) (.bin .gtr (.t 18) (.c (.int .i64 0))) 0
  .nil))))))))
  (.op (some 20) (.pick (.t 11) (.t 19) (.c (.bool false))) 0
  (.op (some 7) (.move (.t 20)) 0
  .nil)))))))) false)
 (.cond (.t 7)
 (.seq (.region (Nodes.flat none (.op (some 6) (.move (.c (.str ⟨#[97, 32, 98, 108, 111, 99, 107, 32, 116, 104, 97, 116, 32, 105, 115, 32, 110, 111, 110, 101, 32, 104, 97, 115, 32, 112, 97, 114, 116, 115]⟩))) 0
  .nil)) false)
 .ret)
 (.seq (.region (Nodes.flat none (.op (some 22) (.fieldAddr 2 (.t 5)) 0
  (.op (some 23) (.load none (.t 22)) 0
  (.op (some 24) (.call 33 [(.t 23)]) 0
  (.op (some 25) (.un .not (.t 24)) 0
  (.op (some 26) (.move (.t 25)) 0
  (.grd 26 false
  (.op (some 27) (.fieldAddr 2 (.t 5)) 0
  (.op (some 28) (.load none (.t 27)) 0
  (.op (some 29) (.mkfunc 35 [(.t 4)]) 0
  (.op (some 30) (.call 34 [(.t 28), (.t 29)]) 0
  .nil))))
  (.op (some 31) (.pick (.t 26) (.c (.bool true)) (.t 30)) 0
  (.op (some 21) (.move (.t 31)) 0
  .nil))))))))) false)
 (.cond (.t 21)
 (.seq (.region (Nodes.flat none (.op (some 6) (.move (.c (.str ⟨#[101, 100, 103, 101, 115]⟩))) 0
  .nil)) false)
 .ret)
 (.seq (.region (Nodes.flat none (.op (some 33) (.fieldAddr 1 (.t 5)) 0
  (.op (some 34) (.load none (.t 33)) 0
  (.op (some 35) (.len false (.t 34)) 0
  (.op (some 36) (.bin .gtr (.t 35) (.c (.int .i64 16))) 0
  (.op (some 37) (.move (.t 36)) 0
  (.grd 37 false
  (.op (some 38) (.fieldAddr 1 (.t 5)) 0
  (.op (some 39) (.load none (.t 38)) 0
  (.op (some 40) (.mkfunc 37 [(.t 3), (.t 4)]) 0
  (.op (some 41) (.call 36 [(.t 39), (.t 40)]) 0
  .nil))))
  (.op (some 42) (.pick (.t 37) (.c (.bool true)) (.t 41)) 0
  (.op (some 32) (.move (.t 42)) 0
  .nil))))))))) false)
 (.cond (.t 32)
 (.seq (.region (Nodes.flat none (.op (some 6) (.move (.c (.str ⟨#[105, 110, 115, 116, 114, 117, 99, 116, 105, 111, 110, 115]⟩))) 0
  .nil)) false)
 .ret)
 .skip)))))))
 (.seq (.region (Nodes.flat none (.op (some 6) (.move (.c (.str ⟨#[]⟩))) 0
  .nil)) false)
 .ret))),
 [.tmp 6]⟩
theorem b32 : fnOf Go.Proofs.Tryd.prog (owOf []) 32 = some c32 := by kernel_rfl
def c37 : RFn := ⟨(.seq (.region (Nodes.flat none (.op (some 3) (.box (.t 0)) 0
  (.op (some 4) (.move (.c (.bool false))) 0
  .nil))) false)
 (.seq (.region (Nodes.flat none (.op (some 5) (.load (some 1) (.t 1)) 0
  (.op (some 6) (.load (some 3) (.t 2)) 0
  (.op (some 7) (.load (some 11) (.t 3)) 0
  (.op (some 8) (.call 38 [(.t 5), (.t 6), (.t 7)]) 0
  (.op (some 9) (.un .not (.t 8)) 0
  (.op (some 4) (.move (.t 9)) 0
  .nil))))))) false)
 .ret)),
 [.tmp 4]⟩
theorem b37 : fnOf Go.Proofs.Tryd.prog (owOf []) 37 = some c37 := by kernel_rfl
end Go.Vm
end
section
/- Walks. -/
set_option maxRecDepth 100000
set_option linter.unusedSimpArgs false
set_option linter.unusedVariables false
namespace Go.Vm
open Go
set_option maxHeartbeats 4000000
theorem p_block2 (p : List Fn) (f : Fn) (i : In) : Pure Go.Proofs.Tryd.prog glD 37 ([pI i] ++ [.fptr [.sl (p.map pF)], .fptr [.int .i64 f.ar, .int .i64 f.vs, .sl (f.bs.map pB)]]) (.bool (!okI p f i)) := by
  refine Pure.fn hmix b37 ?_
  repeat' first
    | with_reducible refine tr_seq ?_
    | ((with_reducible refine tr_region_f ?_ ?_); kernel_rfl)
    | with_reducible refine n_nil ?_
    | with_reducible refine seqQ_normal ?_
    | with_reducible refine seqQ_ret ?_
    | with_reducible refine blkQ_ret ?_
    | with_reducible refine tr_ret ?_
    | ((with_reducible apply n_val); rfl; rfl)
    | ((with_reducible apply n_new); rfl; (first | (simp only [hn0, hn1, hn2, hn3, hn4, hn5, List.length_cons, List.length_nil, Nat.reduceAdd, Nat.zero_add]; done) | (simp only [hn0, hn1, hn2, hn3, hn4, hn5, List.length_cons, List.length_nil, Nat.reduceAdd, Nat.zero_add]; rfl) | rfl); rfl)
    | ((with_reducible apply n_call (f := 38)); rfl; rfl; exact p_instrOK p f i)
    | ((with_reducible apply fnQ_told_ret); rfl)
    | ((with_reducible apply fnQ_ret_soft); rfl; rfl)
  rfl
theorem p_block (p : List Fn) (f : Fn) (x : Bk) (h1 : x.code.length ≤ 1000) (h2 : x.succ.length ≤ 1000) : Pure Go.Proofs.Tryd.prog glD 32 [pP p, pF f, pB x] (.str (bkS p f x)) := by
  have hC := p_ctnF (gl := glD) x.succ 35 [.fptr [.int .i64 f.ar, .int .i64 f.vs, .sl (f.bs.map pB)]] (fun b => !liveF f b) (by omega) rfl (fun j _ => p_block1 f _)
  have hG := p_ctnG (gl := glD) x.code 37 [.fptr [.sl (p.map pF)], .fptr [.int .i64 f.ar, .int .i64 f.vs, .sl (f.bs.map pB)]] (fun i => !okI p f i) (by omega) rfl (fun j _ => p_block2 p f _)
  refine Pure.fn hmix b32 ?_
  repeat' first
    | with_reducible refine tr_seq ?_
    | ((with_reducible refine tr_region_f ?_ ?_); kernel_rfl)
    | with_reducible refine n_nil ?_
    | exact ⟨rfl, rfl⟩
    | with_reducible refine seqQ_normal ?_
    | with_reducible refine seqQ_ret ?_
    | with_reducible refine blkQ_normal ?_
    | with_reducible refine blkQ_ret ?_
    | with_reducible refine tr_block ?_
    | with_reducible refine tr_skip ?_
    | with_reducible refine tr_ret ?_
    | ((with_reducible apply tr_cond_e); rfl)
    | with_reducible refine condT_t ?_
    | with_reducible refine condT_f ?_
    | ((with_reducible apply n_and); rfl; rfl; intro h)
    | ((with_reducible apply n_or); rfl; rfl; intro h)
    | (first | ((with_reducible apply n_bin); rfl; rfl; focus ((with_reducible (first | apply b_add | apply b_sub)) <;> first | omega | decide | (simp only [decide_eq_true_eq, decide_eq_false_iff_not, Bool.or_eq_false_iff, Bool.and_eq_true, Bool.not_eq_true', Bool.not_eq_false', Bool.not_true, Bool.not_false, ints_length, List.length_map, Int.toNat_natCast] at *; omega))) | ((with_reducible apply n_max); rfl; rfl) | ((with_reducible apply n_min); rfl; rfl))
    | ((with_reducible apply n_val); rfl; rfl)
    | ((with_reducible apply n_new); rfl; (first | (simp only [hn0, hn1, hn2, hn3, hn4, hn5, List.length_cons, List.length_nil, Nat.reduceAdd, Nat.zero_add]; done) | (simp only [hn0, hn1, hn2, hn3, hn4, hn5, List.length_cons, List.length_nil, Nat.reduceAdd, Nat.zero_add]; rfl) | rfl); rfl)
    | ((with_reducible apply n_call (f := 33)); rfl; rfl; exact p_rises x.succ (by omega))
    | ((with_reducible apply n_callb ); rfl; rfl; exact hC; rfl)
    | ((with_reducible apply n_callb ); rfl; rfl; exact hG; rfl)
    | (with_reducible refine condT_split (fun h => ?_) (fun h => ?_))
    | ((with_reducible apply fnQ_told_ret); rfl)
    | ((with_reducible apply fnQ_ret_soft); rfl; rfl)
  all_goals (simp only [ints_length, List.length_map] at *)
  · exact congrArg PV.str (bkS_1 (by assumption)).symm
  · exact congrArg PV.str (bkS_2 (by assumption) (by assumption)).symm
  · exact congrArg PV.str (bkS_3 (by assumption) (by assumption) (by assumption)).symm
  · exact congrArg PV.str (bkS_0 (by assumption) (by assumption) (by assumption)).symm
theorem p_fun (p : List Fn) (f : Fn) (h0 : f.bs.length ≤ 1000) (h1 : ∀ b ∈ f.bs, b.code.length ≤ 1000) (h2 : ∀ b ∈ f.bs, b.succ.length ≤ 1000) : Pure Go.Proofs.Tryd.prog glD 27 [pP p, pF f] (.str (fnS p f)) := by
  refine Pure.fn hmix b27 ?_
  repeat' first
    | with_reducible refine tr_seq ?_
    | ((with_reducible refine tr_region_f ?_ ?_); kernel_rfl)
    | with_reducible refine n_nil ?_
    | exact ⟨rfl, rfl⟩
    | with_reducible refine seqQ_normal ?_
    | with_reducible refine seqQ_exit ?_
    | with_reducible refine seqQ_ret ?_
    | with_reducible refine blkQ_normal ?_
    | with_reducible refine blkQ_exit ?_
    | with_reducible refine blkQ_ret ?_
    | ((with_reducible refine blkQ_exit_ne ?_ ?_); rfl)
    | with_reducible refine tr_block ?_
    | with_reducible refine tr_skip ?_
    | with_reducible refine tr_exit ?_
    | with_reducible refine tr_ret ?_
    | ((with_reducible apply tr_cond_e); rfl)
    | with_reducible refine condT_t ?_
    | with_reducible refine condT_f ?_
    | ((with_reducible apply n_and); rfl; rfl; intro h)
    | ((with_reducible apply n_or); rfl; rfl; intro h)
    | with_reducible refine loopV_exit ?_
    | with_reducible refine loopV_ret ?_
    | ((with_reducible apply n_idx_vals B0); rfl; rfl; exact (fun _ => rfl); (first | omega | decide | (simp only [decide_eq_true_eq, decide_eq_false_iff_not, Bool.or_eq_false_iff, Bool.and_eq_true, Bool.not_eq_true', Bool.not_eq_false', Bool.not_true, Bool.not_false, ints_length, List.length_map, Int.toNat_natCast] at *; omega)))
    | (first | ((with_reducible apply n_bin); rfl; rfl; focus ((with_reducible (first | apply b_add | apply b_sub)) <;> first | omega | decide | (simp only [decide_eq_true_eq, decide_eq_false_iff_not, Bool.or_eq_false_iff, Bool.and_eq_true, Bool.not_eq_true', Bool.not_eq_false', Bool.not_true, Bool.not_false, ints_length, List.length_map, Int.toNat_natCast] at *; omega))) | ((with_reducible apply n_max); rfl; rfl) | ((with_reducible apply n_min); rfl; rfl))
    | (refine tr_loop_v (α := Nat) 2 (fun | k => [(61, some (.int .i64 (k : Int))), (62, none), (63, none), (64, none), (7, none), (65, none), (66, none), (67, none), (68, none), (8, none), (69, none), (70, none), (71, none), (4, none), (72, none)]) (fun | k => [some ⟨0, 1, [pP p]⟩, some ⟨0, 3, [pF f]⟩]) (fun | k => k ≤ f.bs.length ∧ ∀ j, j < k → okB p f (f.bs.getD j B0) = true) (fun | k => f.bs.length - k) (0) (ks := [61, 62, 63, 64, 7, 65, 66, 67, 68, 8, 69, 70, 71, 4, 72]) (fun _ => rfl) (fun _ => rfl) rfl (by omega) ?_ ⟨⟨_, rfl, rfl⟩, trivial⟩ ⟨⟨_, rfl, rfl, rfl, (by first |  rfl | exact fzP_pure (ints_pure _) | exact fzP_pure (u64s_pure _) | exact fzP_pure (by assumption) | exact fzP_pure (by first | (simp [pureE, pure1, ints]; done) | (simp_all [pe_int, pe_bool, pe_str, pe_sl, pe_agg, p1_int, p1_bool, p1_str, p1_sl]; done)))⟩, ⟨_, rfl, rfl, rfl, (by first |  rfl | exact fzP_pure (ints_pure _) | exact fzP_pure (u64s_pure _) | exact fzP_pure (by assumption) | exact fzP_pure (by first | (simp [pureE, pure1, ints]; done) | (simp_all [pe_int, pe_bool, pe_str, pe_sl, pe_agg, p1_int, p1_bool, p1_str, p1_sl]; done)))⟩, trivial⟩ ?_; rotate_left; rintro k hx; try dsimp only at hx)
    | ((first | (refine loopV_normal (k + 1) ?_ ⟨⟨_, rfl, rfl⟩, trivial⟩ ⟨⟨_, rfl, rfl, rfl, (by first |  rfl | exact fzP_pure (ints_pure _) | exact fzP_pure (u64s_pure _) | exact fzP_pure (by assumption) | exact fzP_pure (by first | (simp [pureE, pure1, ints]; done) | (simp_all [pe_int, pe_bool, pe_str, pe_sl, pe_agg, p1_int, p1_bool, p1_str, p1_sl]; done)))⟩, ⟨_, rfl, rfl, rfl, (by first |  rfl | exact fzP_pure (ints_pure _) | exact fzP_pure (u64s_pure _) | exact fzP_pure (by assumption) | exact fzP_pure (by first | (simp [pureE, pure1, ints]; done) | (simp_all [pe_int, pe_bool, pe_str, pe_sl, pe_agg, p1_int, p1_bool, p1_str, p1_sl]; done)))⟩, trivial⟩ ?_ ?_)); repeat (first | exact only_refl | refine only_put rfl ?_ | refine only_less rfl ?_ | refine only_ov rfl ?_))
    | ((with_reducible apply n_val); rfl; rfl)
    | ((with_reducible apply n_new); rfl; (first | (simp only [hn0, hn1, hn2, hn3, hn4, hn5, List.length_cons, List.length_nil, Nat.reduceAdd, Nat.zero_add]; done) | (simp only [hn0, hn1, hn2, hn3, hn4, hn5, List.length_cons, List.length_nil, Nat.reduceAdd, Nat.zero_add]; rfl) | rfl); rfl)
    | ((with_reducible apply n_store); rfl; rfl; rfl; rfl; rfl)
    | ((with_reducible apply n_call (f := 32)); rfl; rfl; exact p_block p f (f.bs.getD _ B0) (h1 _ (getD_mem B0 (by first | omega | decide | (simp only [decide_eq_true_eq, decide_eq_false_iff_not, Bool.or_eq_false_iff, Bool.and_eq_true, Bool.not_eq_true', Bool.not_eq_false', Bool.not_true, Bool.not_false, ints_length, List.length_map, Int.toNat_natCast] at *; omega)))) (h2 _ (getD_mem B0 (by first | omega | decide | (simp only [decide_eq_true_eq, decide_eq_false_iff_not, Bool.or_eq_false_iff, Bool.and_eq_true, Bool.not_eq_true', Bool.not_eq_false', Bool.not_true, Bool.not_false, ints_length, List.length_map, Int.toNat_natCast] at *; omega)))))
    | (with_reducible refine condT_split (fun h => ?_) (fun h => ?_))
    | ((with_reducible apply fnQ_told_ret); rfl)
    | ((with_reducible apply fnQ_ret_soft); rfl; rfl)
  all_goals (try dsimp only at *)
  all_goals (try simp only [decide_eq_true_eq, decide_eq_false_iff_not, List.length_map] at *)
  · exact congrArg PV.str (fnS_1 (by assumption)).symm
  · exact congrArg PV.str (fnS_2 (by assumption) (by assumption)).symm
  · rename_i q1 q2 q3
    refine congrArg PV.str ?_
    rw [fnS_3 (by assumption) (by assumption), firstS_at (k := k) (by omega) (okB_of (b := true) (by assumption)) hx.2]
    rfl
  · omega
  · refine ⟨by omega, fun j hj => ?_⟩
    by_cases e : j = k
    · subst e; exact okB_of (b := false) (by assumption)
    · exact hx.2 j (by omega)
  · refine congrArg PV.str ?_
    rw [fnS_3 (by assumption) (by assumption), firstS_all fun j hj => hx.2 j (by omega)]
    rfl
  · exact ⟨by omega, fun j hj => absurd hj (by omega)⟩
def chkV (p : List Fn) : PV := if sane p then .nili else .ifc 50 (.fptr [])
theorem chk_t {p : List Fn} (h : sane p = true) : chkV p = .nili := by rw [chkV, if_pos h]
theorem chk_f {p : List Fn} (h : sane p = false) {l : List PV} : Wk (.ifc 50 (.fptr l)) (chkV p) := by rw [chkV, h]; exact Wk.ptr
theorem p_check (p : List Fn) (hp : Fit p) : Pure Go.Proofs.Tryd.prog glD 17 [pP p] (chkV p) := by
  have hf : ∀ k, k < p.length → Pure Go.Proofs.Tryd.prog glD 27 [pP p, pF (p.getD k F0)] (.str (fnS p (p.getD k F0))) := fun k hk => p_fun p _ (hp.bs _ (getD_mem F0 hk)) (hp.code _ (getD_mem F0 hk)) (hp.succ _ (getD_mem F0 hk))
  have hb : ∀ k, k < p.length → (p.getD k F0).bs.length ≤ 1000 := fun k hk => hp.bs _ (getD_mem F0 hk)
  have hc : ∀ k, k < p.length → ∀ j, j < (p.getD k F0).bs.length → ((p.getD k F0).bs.getD j B0).code.length ≤ 1000 := fun k hk j hj => hp.code _ (getD_mem F0 hk) _ (getD_mem B0 hj)
  have hl := hp.funs
  refine Pure.fnW hmix b17 ?_
  repeat' first
    | with_reducible refine tr_seq ?_
    | ((with_reducible refine tr_region_f ?_ ?_); kernel_rfl)
    | with_reducible refine n_nil ?_
    | with_reducible refine seqQ_normal ?_
    | with_reducible refine seqQ_exit ?_
    | with_reducible refine seqQ_ret ?_
    | with_reducible refine blkQ_normal ?_
    | with_reducible refine blkQ_exit ?_
    | with_reducible refine blkQ_ret ?_
    | ((with_reducible refine blkQ_exit_ne ?_ ?_); rfl)
    | with_reducible refine tr_block ?_
    | with_reducible refine tr_skip ?_
    | with_reducible refine tr_exit ?_
    | with_reducible refine tr_ret ?_
    | ((with_reducible apply tr_cond_e); rfl)
    | with_reducible refine condT_t ?_
    | with_reducible refine condT_f ?_
    | with_reducible refine loopV_exit ?_
    | with_reducible refine loopV_ret ?_
    | ((with_reducible apply n_call (f := 27)); rfl; rfl; exact hf k (by first | omega | decide | (simp only [decide_eq_true_eq, decide_eq_false_iff_not, Bool.or_eq_false_iff, Bool.and_eq_true, Bool.not_eq_true', Bool.not_eq_false', Bool.not_true, Bool.not_false, ints_length, List.length_map, Int.toNat_natCast] at *; omega)))
    | ((with_reducible apply n_mkmap); (first | (simp only [hn0, hn1, hn2, hn3, hn4, hn5, List.length_cons, List.length_nil, Nat.reduceAdd, Nat.zero_add]; rfl) | rfl))
    | ((with_reducible apply n_mapget); rfl; rfl; rfl)
    | ((with_reducible apply n_mapset); rfl; rfl; rfl; rfl)
    | ((with_reducible apply n_idx_vals F0); rfl; rfl; exact (fun _ => rfl); (first | omega | decide | (simp only [decide_eq_true_eq, decide_eq_false_iff_not, Bool.or_eq_false_iff, Bool.and_eq_true, Bool.not_eq_true', Bool.not_eq_false', Bool.not_true, Bool.not_false, ints_length, List.length_map, Int.toNat_natCast] at *; omega)))
    | ((with_reducible apply n_idx_vals B0); rfl; rfl; exact (fun _ => rfl); (first | omega | decide | (simp only [decide_eq_true_eq, decide_eq_false_iff_not, Bool.or_eq_false_iff, Bool.and_eq_true, Bool.not_eq_true', Bool.not_eq_false', Bool.not_true, Bool.not_false, ints_length, List.length_map, Int.toNat_natCast] at *; omega)))
    | ((with_reducible apply n_idx_vals i0); rfl; rfl; exact (fun _ => rfl); (first | omega | decide | (simp only [decide_eq_true_eq, decide_eq_false_iff_not, Bool.or_eq_false_iff, Bool.and_eq_true, Bool.not_eq_true', Bool.not_eq_false', Bool.not_true, Bool.not_false, ints_length, List.length_map, Int.toNat_natCast] at *; omega)))
    | ((with_reducible apply fnQ_ret_wk); rfl; rfl)
    | (first | ((with_reducible apply n_bin); rfl; rfl; focus ((with_reducible (first | apply b_add | apply b_sub)) <;> first | omega | decide | (simp only [decide_eq_true_eq, decide_eq_false_iff_not, Bool.or_eq_false_iff, Bool.and_eq_true, Bool.not_eq_true', Bool.not_eq_false', Bool.not_true, Bool.not_false, ints_length, List.length_map, Int.toNat_natCast] at *; omega))) | ((with_reducible apply n_max); rfl; rfl) | ((with_reducible apply n_min); rfl; rfl))
    | (refine tr_loop_v (α := Nat) 2 (fun | k => [(25, some (.int .i64 (k : Int))), (26, none), (27, none), (28, none), (29, none), (5, none), (4, none), (30, none), (31, none), (32, none), (6, none), (33, none), (34, none), (35, none), (36, none), (37, none), (38, none), (39, none), (2, none), (40, none), (41, none), (42, none), (43, none), (44, none), (45, none), (46, none), (8, none), (47, none), (48, none), (49, none), (50, none), (51, none), (52, none), (53, none), (10, none), (54, none), (55, none), (56, none), (57, none), (58, none), (59, none), (60, none), (61, none), (62, none), (63, none), (64, none), (65, none), (66, none), (67, none)]) (fun | k => [some ⟨0, 1, [pP p]⟩, some ⟨0, 2, (entT (pre1 p k)).map pM⟩]) (fun | k => k ≤ p.length ∧ (∀ j, j < k → okF p (p.getD j F0) = true) ∧ (pre1 p k).Nodup) (fun | k => p.length - k) (0) (ks := [25, 26, 27, 28, 29, 5, 4, 30, 31, 32, 6, 33, 34, 35, 36, 37, 38, 39, 2, 40, 41, 42, 43, 44, 45, 46, 8, 47, 48, 49, 50, 51, 52, 53, 10, 54, 55, 56, 57, 58, 59, 60, 61, 62, 63, 64, 65, 66, 67]) (fun _ => rfl) (fun _ => rfl) rfl (by omega) ?_ ⟨⟨_, rfl, rfl⟩, trivial⟩ ⟨⟨_, rfl, rfl, rfl, (by first | exact fzP_vals (fun _ => rfl) rfl | exact fzP_vals (fun _ => rfl) (congrArg entT (pre2_z p k).symm) | exact fzP_vals (fun _ => rfl) (congrArg entT (pre3_z p k j).symm) | exact fzP_vals (fun _ => rfl) (entT_3 (by first | omega | decide | (simp only [decide_eq_true_eq, decide_eq_false_iff_not, Bool.or_eq_false_iff, Bool.and_eq_true, Bool.not_eq_true', Bool.not_eq_false', Bool.not_true, Bool.not_false, ints_length, List.length_map, Int.toNat_natCast] at *; omega)) (by assumption)) | exact fzP_vals (fun _ => rfl) (entT_2 (by first | omega | decide | (simp only [decide_eq_true_eq, decide_eq_false_iff_not, Bool.or_eq_false_iff, Bool.and_eq_true, Bool.not_eq_true', Bool.not_eq_false', Bool.not_true, Bool.not_false, ints_length, List.length_map, Int.toNat_natCast] at *; omega)) (by first | omega | decide | (simp only [decide_eq_true_eq, decide_eq_false_iff_not, Bool.or_eq_false_iff, Bool.and_eq_true, Bool.not_eq_true', Bool.not_eq_false', Bool.not_true, Bool.not_false, ints_length, List.length_map, Int.toNat_natCast] at *; omega)) (by first | omega | decide | (simp only [decide_eq_true_eq, decide_eq_false_iff_not, Bool.or_eq_false_iff, Bool.and_eq_true, Bool.not_eq_true', Bool.not_eq_false', Bool.not_true, Bool.not_false, ints_length, List.length_map, Int.toNat_natCast] at *; omega))) | exact fzP_vals (fun _ => rfl) (entT_1 (by first | omega | decide | (simp only [decide_eq_true_eq, decide_eq_false_iff_not, Bool.or_eq_false_iff, Bool.and_eq_true, Bool.not_eq_true', Bool.not_eq_false', Bool.not_true, Bool.not_false, ints_length, List.length_map, Int.toNat_natCast] at *; omega)) (by first | omega | decide | (simp only [decide_eq_true_eq, decide_eq_false_iff_not, Bool.or_eq_false_iff, Bool.and_eq_true, Bool.not_eq_true', Bool.not_eq_false', Bool.not_true, Bool.not_false, ints_length, List.length_map, Int.toNat_natCast] at *; omega)) (by first | omega | decide | (simp only [decide_eq_true_eq, decide_eq_false_iff_not, Bool.or_eq_false_iff, Bool.and_eq_true, Bool.not_eq_true', Bool.not_eq_false', Bool.not_true, Bool.not_false, ints_length, List.length_map, Int.toNat_natCast] at *; omega))) |  rfl | exact fzP_pure (ints_pure _) | exact fzP_pure (u64s_pure _) | exact fzP_pure (by assumption) | exact fzP_pure (by first | (simp [pureE, pure1, ints]; done) | (simp_all [pe_int, pe_bool, pe_str, pe_sl, pe_agg, p1_int, p1_bool, p1_str, p1_sl]; done)))⟩, ⟨_, rfl, rfl, rfl, (by first | exact fzP_vals (fun _ => rfl) rfl | exact fzP_vals (fun _ => rfl) (congrArg entT (pre2_z p k).symm) | exact fzP_vals (fun _ => rfl) (congrArg entT (pre3_z p k j).symm) | exact fzP_vals (fun _ => rfl) (entT_3 (by first | omega | decide | (simp only [decide_eq_true_eq, decide_eq_false_iff_not, Bool.or_eq_false_iff, Bool.and_eq_true, Bool.not_eq_true', Bool.not_eq_false', Bool.not_true, Bool.not_false, ints_length, List.length_map, Int.toNat_natCast] at *; omega)) (by assumption)) | exact fzP_vals (fun _ => rfl) (entT_2 (by first | omega | decide | (simp only [decide_eq_true_eq, decide_eq_false_iff_not, Bool.or_eq_false_iff, Bool.and_eq_true, Bool.not_eq_true', Bool.not_eq_false', Bool.not_true, Bool.not_false, ints_length, List.length_map, Int.toNat_natCast] at *; omega)) (by first | omega | decide | (simp only [decide_eq_true_eq, decide_eq_false_iff_not, Bool.or_eq_false_iff, Bool.and_eq_true, Bool.not_eq_true', Bool.not_eq_false', Bool.not_true, Bool.not_false, ints_length, List.length_map, Int.toNat_natCast] at *; omega)) (by first | omega | decide | (simp only [decide_eq_true_eq, decide_eq_false_iff_not, Bool.or_eq_false_iff, Bool.and_eq_true, Bool.not_eq_true', Bool.not_eq_false', Bool.not_true, Bool.not_false, ints_length, List.length_map, Int.toNat_natCast] at *; omega))) | exact fzP_vals (fun _ => rfl) (entT_1 (by first | omega | decide | (simp only [decide_eq_true_eq, decide_eq_false_iff_not, Bool.or_eq_false_iff, Bool.and_eq_true, Bool.not_eq_true', Bool.not_eq_false', Bool.not_true, Bool.not_false, ints_length, List.length_map, Int.toNat_natCast] at *; omega)) (by first | omega | decide | (simp only [decide_eq_true_eq, decide_eq_false_iff_not, Bool.or_eq_false_iff, Bool.and_eq_true, Bool.not_eq_true', Bool.not_eq_false', Bool.not_true, Bool.not_false, ints_length, List.length_map, Int.toNat_natCast] at *; omega)) (by first | omega | decide | (simp only [decide_eq_true_eq, decide_eq_false_iff_not, Bool.or_eq_false_iff, Bool.and_eq_true, Bool.not_eq_true', Bool.not_eq_false', Bool.not_true, Bool.not_false, ints_length, List.length_map, Int.toNat_natCast] at *; omega))) |  rfl | exact fzP_pure (ints_pure _) | exact fzP_pure (u64s_pure _) | exact fzP_pure (by assumption) | exact fzP_pure (by first | (simp [pureE, pure1, ints]; done) | (simp_all [pe_int, pe_bool, pe_str, pe_sl, pe_agg, p1_int, p1_bool, p1_str, p1_sl]; done)))⟩, trivial⟩ ?_; rotate_left; rintro k hx; try dsimp only at hx)
    | ((first | (refine loopV_normal (k + 1) ?_ ⟨⟨_, rfl, rfl⟩, trivial⟩ ⟨⟨_, rfl, rfl, rfl, (by first | exact fzP_vals (fun _ => rfl) rfl | exact fzP_vals (fun _ => rfl) (congrArg entT (pre2_z p k).symm) | exact fzP_vals (fun _ => rfl) (congrArg entT (pre3_z p k j).symm) | exact fzP_vals (fun _ => rfl) (entT_3 (by first | omega | decide | (simp only [decide_eq_true_eq, decide_eq_false_iff_not, Bool.or_eq_false_iff, Bool.and_eq_true, Bool.not_eq_true', Bool.not_eq_false', Bool.not_true, Bool.not_false, ints_length, List.length_map, Int.toNat_natCast] at *; omega)) (by assumption)) | exact fzP_vals (fun _ => rfl) (entT_2 (by first | omega | decide | (simp only [decide_eq_true_eq, decide_eq_false_iff_not, Bool.or_eq_false_iff, Bool.and_eq_true, Bool.not_eq_true', Bool.not_eq_false', Bool.not_true, Bool.not_false, ints_length, List.length_map, Int.toNat_natCast] at *; omega)) (by first | omega | decide | (simp only [decide_eq_true_eq, decide_eq_false_iff_not, Bool.or_eq_false_iff, Bool.and_eq_true, Bool.not_eq_true', Bool.not_eq_false', Bool.not_true, Bool.not_false, ints_length, List.length_map, Int.toNat_natCast] at *; omega)) (by first | omega | decide | (simp only [decide_eq_true_eq, decide_eq_false_iff_not, Bool.or_eq_false_iff, Bool.and_eq_true, Bool.not_eq_true', Bool.not_eq_false', Bool.not_true, Bool.not_false, ints_length, List.length_map, Int.toNat_natCast] at *; omega))) | exact fzP_vals (fun _ => rfl) (entT_1 (by first | omega | decide | (simp only [decide_eq_true_eq, decide_eq_false_iff_not, Bool.or_eq_false_iff, Bool.and_eq_true, Bool.not_eq_true', Bool.not_eq_false', Bool.not_true, Bool.not_false, ints_length, List.length_map, Int.toNat_natCast] at *; omega)) (by first | omega | decide | (simp only [decide_eq_true_eq, decide_eq_false_iff_not, Bool.or_eq_false_iff, Bool.and_eq_true, Bool.not_eq_true', Bool.not_eq_false', Bool.not_true, Bool.not_false, ints_length, List.length_map, Int.toNat_natCast] at *; omega)) (by first | omega | decide | (simp only [decide_eq_true_eq, decide_eq_false_iff_not, Bool.or_eq_false_iff, Bool.and_eq_true, Bool.not_eq_true', Bool.not_eq_false', Bool.not_true, Bool.not_false, ints_length, List.length_map, Int.toNat_natCast] at *; omega))) |  rfl | exact fzP_pure (ints_pure _) | exact fzP_pure (u64s_pure _) | exact fzP_pure (by assumption) | exact fzP_pure (by first | (simp [pureE, pure1, ints]; done) | (simp_all [pe_int, pe_bool, pe_str, pe_sl, pe_agg, p1_int, p1_bool, p1_str, p1_sl]; done)))⟩, ⟨_, rfl, rfl, rfl, (by first | exact fzP_vals (fun _ => rfl) rfl | exact fzP_vals (fun _ => rfl) (congrArg entT (pre2_z p k).symm) | exact fzP_vals (fun _ => rfl) (congrArg entT (pre3_z p k j).symm) | exact fzP_vals (fun _ => rfl) (entT_3 (by first | omega | decide | (simp only [decide_eq_true_eq, decide_eq_false_iff_not, Bool.or_eq_false_iff, Bool.and_eq_true, Bool.not_eq_true', Bool.not_eq_false', Bool.not_true, Bool.not_false, ints_length, List.length_map, Int.toNat_natCast] at *; omega)) (by assumption)) | exact fzP_vals (fun _ => rfl) (entT_2 (by first | omega | decide | (simp only [decide_eq_true_eq, decide_eq_false_iff_not, Bool.or_eq_false_iff, Bool.and_eq_true, Bool.not_eq_true', Bool.not_eq_false', Bool.not_true, Bool.not_false, ints_length, List.length_map, Int.toNat_natCast] at *; omega)) (by first | omega | decide | (simp only [decide_eq_true_eq, decide_eq_false_iff_not, Bool.or_eq_false_iff, Bool.and_eq_true, Bool.not_eq_true', Bool.not_eq_false', Bool.not_true, Bool.not_false, ints_length, List.length_map, Int.toNat_natCast] at *; omega)) (by first | omega | decide | (simp only [decide_eq_true_eq, decide_eq_false_iff_not, Bool.or_eq_false_iff, Bool.and_eq_true, Bool.not_eq_true', Bool.not_eq_false', Bool.not_true, Bool.not_false, ints_length, List.length_map, Int.toNat_natCast] at *; omega))) | exact fzP_vals (fun _ => rfl) (entT_1 (by first | omega | decide | (simp only [decide_eq_true_eq, decide_eq_false_iff_not, Bool.or_eq_false_iff, Bool.and_eq_true, Bool.not_eq_true', Bool.not_eq_false', Bool.not_true, Bool.not_false, ints_length, List.length_map, Int.toNat_natCast] at *; omega)) (by first | omega | decide | (simp only [decide_eq_true_eq, decide_eq_false_iff_not, Bool.or_eq_false_iff, Bool.and_eq_true, Bool.not_eq_true', Bool.not_eq_false', Bool.not_true, Bool.not_false, ints_length, List.length_map, Int.toNat_natCast] at *; omega)) (by first | omega | decide | (simp only [decide_eq_true_eq, decide_eq_false_iff_not, Bool.or_eq_false_iff, Bool.and_eq_true, Bool.not_eq_true', Bool.not_eq_false', Bool.not_true, Bool.not_false, ints_length, List.length_map, Int.toNat_natCast] at *; omega))) |  rfl | exact fzP_pure (ints_pure _) | exact fzP_pure (u64s_pure _) | exact fzP_pure (by assumption) | exact fzP_pure (by first | (simp [pureE, pure1, ints]; done) | (simp_all [pe_int, pe_bool, pe_str, pe_sl, pe_agg, p1_int, p1_bool, p1_str, p1_sl]; done)))⟩, trivial⟩ ?_ ?_)); repeat (first | exact only_refl | refine only_put rfl ?_ | refine only_less rfl ?_ | refine only_ov rfl ?_))
    | (refine tr_loop_v (α := Nat) 3 (fun | j => [(43, some (.int .i64 (j : Int))), (44, none), (45, none), (46, none), (8, none), (47, none), (48, none), (49, none), (50, none), (51, none), (52, none), (53, none), (10, none), (54, none), (55, none), (56, none), (57, none), (58, none), (59, none), (60, none), (61, none), (2, none), (62, none), (63, none), (64, none), (65, none), (66, none)]) (fun | j => [some ⟨0, 1, [pP p]⟩, some ⟨0, 2, (entT (pre2 p k j)).map pM⟩, some ⟨0, 3, [pF (p.getD k F0)]⟩]) (fun | j => j ≤ (p.getD k F0).bs.length ∧ (pre2 p k j).Nodup ∧ (p.getD k F0).bs.length ≤ 1000) (fun | j => (p.getD k F0).bs.length - j) (0) (ks := [43, 44, 45, 46, 8, 47, 48, 49, 50, 51, 52, 53, 10, 54, 55, 56, 57, 58, 59, 60, 61, 2, 62, 63, 64, 65, 66]) (fun _ => rfl) (fun _ => rfl) rfl (by omega) ?_ ⟨⟨_, rfl, rfl⟩, trivial⟩ ⟨⟨_, rfl, rfl, rfl, (by first | exact fzP_vals (fun _ => rfl) rfl | exact fzP_vals (fun _ => rfl) (congrArg entT (pre2_z p k).symm) | exact fzP_vals (fun _ => rfl) (congrArg entT (pre3_z p k j).symm) | exact fzP_vals (fun _ => rfl) (entT_3 (by first | omega | decide | (simp only [decide_eq_true_eq, decide_eq_false_iff_not, Bool.or_eq_false_iff, Bool.and_eq_true, Bool.not_eq_true', Bool.not_eq_false', Bool.not_true, Bool.not_false, ints_length, List.length_map, Int.toNat_natCast] at *; omega)) (by assumption)) | exact fzP_vals (fun _ => rfl) (entT_2 (by first | omega | decide | (simp only [decide_eq_true_eq, decide_eq_false_iff_not, Bool.or_eq_false_iff, Bool.and_eq_true, Bool.not_eq_true', Bool.not_eq_false', Bool.not_true, Bool.not_false, ints_length, List.length_map, Int.toNat_natCast] at *; omega)) (by first | omega | decide | (simp only [decide_eq_true_eq, decide_eq_false_iff_not, Bool.or_eq_false_iff, Bool.and_eq_true, Bool.not_eq_true', Bool.not_eq_false', Bool.not_true, Bool.not_false, ints_length, List.length_map, Int.toNat_natCast] at *; omega)) (by first | omega | decide | (simp only [decide_eq_true_eq, decide_eq_false_iff_not, Bool.or_eq_false_iff, Bool.and_eq_true, Bool.not_eq_true', Bool.not_eq_false', Bool.not_true, Bool.not_false, ints_length, List.length_map, Int.toNat_natCast] at *; omega))) | exact fzP_vals (fun _ => rfl) (entT_1 (by first | omega | decide | (simp only [decide_eq_true_eq, decide_eq_false_iff_not, Bool.or_eq_false_iff, Bool.and_eq_true, Bool.not_eq_true', Bool.not_eq_false', Bool.not_true, Bool.not_false, ints_length, List.length_map, Int.toNat_natCast] at *; omega)) (by first | omega | decide | (simp only [decide_eq_true_eq, decide_eq_false_iff_not, Bool.or_eq_false_iff, Bool.and_eq_true, Bool.not_eq_true', Bool.not_eq_false', Bool.not_true, Bool.not_false, ints_length, List.length_map, Int.toNat_natCast] at *; omega)) (by first | omega | decide | (simp only [decide_eq_true_eq, decide_eq_false_iff_not, Bool.or_eq_false_iff, Bool.and_eq_true, Bool.not_eq_true', Bool.not_eq_false', Bool.not_true, Bool.not_false, ints_length, List.length_map, Int.toNat_natCast] at *; omega))) |  rfl | exact fzP_pure (ints_pure _) | exact fzP_pure (u64s_pure _) | exact fzP_pure (by assumption) | exact fzP_pure (by first | (simp [pureE, pure1, ints]; done) | (simp_all [pe_int, pe_bool, pe_str, pe_sl, pe_agg, p1_int, p1_bool, p1_str, p1_sl]; done)))⟩, ⟨_, rfl, rfl, rfl, (by first | exact fzP_vals (fun _ => rfl) rfl | exact fzP_vals (fun _ => rfl) (congrArg entT (pre2_z p k).symm) | exact fzP_vals (fun _ => rfl) (congrArg entT (pre3_z p k j).symm) | exact fzP_vals (fun _ => rfl) (entT_3 (by first | omega | decide | (simp only [decide_eq_true_eq, decide_eq_false_iff_not, Bool.or_eq_false_iff, Bool.and_eq_true, Bool.not_eq_true', Bool.not_eq_false', Bool.not_true, Bool.not_false, ints_length, List.length_map, Int.toNat_natCast] at *; omega)) (by assumption)) | exact fzP_vals (fun _ => rfl) (entT_2 (by first | omega | decide | (simp only [decide_eq_true_eq, decide_eq_false_iff_not, Bool.or_eq_false_iff, Bool.and_eq_true, Bool.not_eq_true', Bool.not_eq_false', Bool.not_true, Bool.not_false, ints_length, List.length_map, Int.toNat_natCast] at *; omega)) (by first | omega | decide | (simp only [decide_eq_true_eq, decide_eq_false_iff_not, Bool.or_eq_false_iff, Bool.and_eq_true, Bool.not_eq_true', Bool.not_eq_false', Bool.not_true, Bool.not_false, ints_length, List.length_map, Int.toNat_natCast] at *; omega)) (by first | omega | decide | (simp only [decide_eq_true_eq, decide_eq_false_iff_not, Bool.or_eq_false_iff, Bool.and_eq_true, Bool.not_eq_true', Bool.not_eq_false', Bool.not_true, Bool.not_false, ints_length, List.length_map, Int.toNat_natCast] at *; omega))) | exact fzP_vals (fun _ => rfl) (entT_1 (by first | omega | decide | (simp only [decide_eq_true_eq, decide_eq_false_iff_not, Bool.or_eq_false_iff, Bool.and_eq_true, Bool.not_eq_true', Bool.not_eq_false', Bool.not_true, Bool.not_false, ints_length, List.length_map, Int.toNat_natCast] at *; omega)) (by first | omega | decide | (simp only [decide_eq_true_eq, decide_eq_false_iff_not, Bool.or_eq_false_iff, Bool.and_eq_true, Bool.not_eq_true', Bool.not_eq_false', Bool.not_true, Bool.not_false, ints_length, List.length_map, Int.toNat_natCast] at *; omega)) (by first | omega | decide | (simp only [decide_eq_true_eq, decide_eq_false_iff_not, Bool.or_eq_false_iff, Bool.and_eq_true, Bool.not_eq_true', Bool.not_eq_false', Bool.not_true, Bool.not_false, ints_length, List.length_map, Int.toNat_natCast] at *; omega))) |  rfl | exact fzP_pure (ints_pure _) | exact fzP_pure (u64s_pure _) | exact fzP_pure (by assumption) | exact fzP_pure (by first | (simp [pureE, pure1, ints]; done) | (simp_all [pe_int, pe_bool, pe_str, pe_sl, pe_agg, p1_int, p1_bool, p1_str, p1_sl]; done)))⟩, ⟨_, rfl, rfl, rfl, (by first | exact fzP_vals (fun _ => rfl) rfl | exact fzP_vals (fun _ => rfl) (congrArg entT (pre2_z p k).symm) | exact fzP_vals (fun _ => rfl) (congrArg entT (pre3_z p k j).symm) | exact fzP_vals (fun _ => rfl) (entT_3 (by first | omega | decide | (simp only [decide_eq_true_eq, decide_eq_false_iff_not, Bool.or_eq_false_iff, Bool.and_eq_true, Bool.not_eq_true', Bool.not_eq_false', Bool.not_true, Bool.not_false, ints_length, List.length_map, Int.toNat_natCast] at *; omega)) (by assumption)) | exact fzP_vals (fun _ => rfl) (entT_2 (by first | omega | decide | (simp only [decide_eq_true_eq, decide_eq_false_iff_not, Bool.or_eq_false_iff, Bool.and_eq_true, Bool.not_eq_true', Bool.not_eq_false', Bool.not_true, Bool.not_false, ints_length, List.length_map, Int.toNat_natCast] at *; omega)) (by first | omega | decide | (simp only [decide_eq_true_eq, decide_eq_false_iff_not, Bool.or_eq_false_iff, Bool.and_eq_true, Bool.not_eq_true', Bool.not_eq_false', Bool.not_true, Bool.not_false, ints_length, List.length_map, Int.toNat_natCast] at *; omega)) (by first | omega | decide | (simp only [decide_eq_true_eq, decide_eq_false_iff_not, Bool.or_eq_false_iff, Bool.and_eq_true, Bool.not_eq_true', Bool.not_eq_false', Bool.not_true, Bool.not_false, ints_length, List.length_map, Int.toNat_natCast] at *; omega))) | exact fzP_vals (fun _ => rfl) (entT_1 (by first | omega | decide | (simp only [decide_eq_true_eq, decide_eq_false_iff_not, Bool.or_eq_false_iff, Bool.and_eq_true, Bool.not_eq_true', Bool.not_eq_false', Bool.not_true, Bool.not_false, ints_length, List.length_map, Int.toNat_natCast] at *; omega)) (by first | omega | decide | (simp only [decide_eq_true_eq, decide_eq_false_iff_not, Bool.or_eq_false_iff, Bool.and_eq_true, Bool.not_eq_true', Bool.not_eq_false', Bool.not_true, Bool.not_false, ints_length, List.length_map, Int.toNat_natCast] at *; omega)) (by first | omega | decide | (simp only [decide_eq_true_eq, decide_eq_false_iff_not, Bool.or_eq_false_iff, Bool.and_eq_true, Bool.not_eq_true', Bool.not_eq_false', Bool.not_true, Bool.not_false, ints_length, List.length_map, Int.toNat_natCast] at *; omega))) |  rfl | exact fzP_pure (ints_pure _) | exact fzP_pure (u64s_pure _) | exact fzP_pure (by assumption) | exact fzP_pure (by first | (simp [pureE, pure1, ints]; done) | (simp_all [pe_int, pe_bool, pe_str, pe_sl, pe_agg, p1_int, p1_bool, p1_str, p1_sl]; done)))⟩, trivial⟩ ?_; rotate_left; rintro j hx; try dsimp only at hx)
    | ((first | (refine loopV_normal (j + 1) ?_ ⟨⟨_, rfl, rfl⟩, trivial⟩ ⟨⟨_, rfl, rfl, rfl, (by first | exact fzP_vals (fun _ => rfl) rfl | exact fzP_vals (fun _ => rfl) (congrArg entT (pre2_z p k).symm) | exact fzP_vals (fun _ => rfl) (congrArg entT (pre3_z p k j).symm) | exact fzP_vals (fun _ => rfl) (entT_3 (by first | omega | decide | (simp only [decide_eq_true_eq, decide_eq_false_iff_not, Bool.or_eq_false_iff, Bool.and_eq_true, Bool.not_eq_true', Bool.not_eq_false', Bool.not_true, Bool.not_false, ints_length, List.length_map, Int.toNat_natCast] at *; omega)) (by assumption)) | exact fzP_vals (fun _ => rfl) (entT_2 (by first | omega | decide | (simp only [decide_eq_true_eq, decide_eq_false_iff_not, Bool.or_eq_false_iff, Bool.and_eq_true, Bool.not_eq_true', Bool.not_eq_false', Bool.not_true, Bool.not_false, ints_length, List.length_map, Int.toNat_natCast] at *; omega)) (by first | omega | decide | (simp only [decide_eq_true_eq, decide_eq_false_iff_not, Bool.or_eq_false_iff, Bool.and_eq_true, Bool.not_eq_true', Bool.not_eq_false', Bool.not_true, Bool.not_false, ints_length, List.length_map, Int.toNat_natCast] at *; omega)) (by first | omega | decide | (simp only [decide_eq_true_eq, decide_eq_false_iff_not, Bool.or_eq_false_iff, Bool.and_eq_true, Bool.not_eq_true', Bool.not_eq_false', Bool.not_true, Bool.not_false, ints_length, List.length_map, Int.toNat_natCast] at *; omega))) | exact fzP_vals (fun _ => rfl) (entT_1 (by first | omega | decide | (simp only [decide_eq_true_eq, decide_eq_false_iff_not, Bool.or_eq_false_iff, Bool.and_eq_true, Bool.not_eq_true', Bool.not_eq_false', Bool.not_true, Bool.not_false, ints_length, List.length_map, Int.toNat_natCast] at *; omega)) (by first | omega | decide | (simp only [decide_eq_true_eq, decide_eq_false_iff_not, Bool.or_eq_false_iff, Bool.and_eq_true, Bool.not_eq_true', Bool.not_eq_false', Bool.not_true, Bool.not_false, ints_length, List.length_map, Int.toNat_natCast] at *; omega)) (by first | omega | decide | (simp only [decide_eq_true_eq, decide_eq_false_iff_not, Bool.or_eq_false_iff, Bool.and_eq_true, Bool.not_eq_true', Bool.not_eq_false', Bool.not_true, Bool.not_false, ints_length, List.length_map, Int.toNat_natCast] at *; omega))) |  rfl | exact fzP_pure (ints_pure _) | exact fzP_pure (u64s_pure _) | exact fzP_pure (by assumption) | exact fzP_pure (by first | (simp [pureE, pure1, ints]; done) | (simp_all [pe_int, pe_bool, pe_str, pe_sl, pe_agg, p1_int, p1_bool, p1_str, p1_sl]; done)))⟩, ⟨_, rfl, rfl, rfl, (by first | exact fzP_vals (fun _ => rfl) rfl | exact fzP_vals (fun _ => rfl) (congrArg entT (pre2_z p k).symm) | exact fzP_vals (fun _ => rfl) (congrArg entT (pre3_z p k j).symm) | exact fzP_vals (fun _ => rfl) (entT_3 (by first | omega | decide | (simp only [decide_eq_true_eq, decide_eq_false_iff_not, Bool.or_eq_false_iff, Bool.and_eq_true, Bool.not_eq_true', Bool.not_eq_false', Bool.not_true, Bool.not_false, ints_length, List.length_map, Int.toNat_natCast] at *; omega)) (by assumption)) | exact fzP_vals (fun _ => rfl) (entT_2 (by first | omega | decide | (simp only [decide_eq_true_eq, decide_eq_false_iff_not, Bool.or_eq_false_iff, Bool.and_eq_true, Bool.not_eq_true', Bool.not_eq_false', Bool.not_true, Bool.not_false, ints_length, List.length_map, Int.toNat_natCast] at *; omega)) (by first | omega | decide | (simp only [decide_eq_true_eq, decide_eq_false_iff_not, Bool.or_eq_false_iff, Bool.and_eq_true, Bool.not_eq_true', Bool.not_eq_false', Bool.not_true, Bool.not_false, ints_length, List.length_map, Int.toNat_natCast] at *; omega)) (by first | omega | decide | (simp only [decide_eq_true_eq, decide_eq_false_iff_not, Bool.or_eq_false_iff, Bool.and_eq_true, Bool.not_eq_true', Bool.not_eq_false', Bool.not_true, Bool.not_false, ints_length, List.length_map, Int.toNat_natCast] at *; omega))) | exact fzP_vals (fun _ => rfl) (entT_1 (by first | omega | decide | (simp only [decide_eq_true_eq, decide_eq_false_iff_not, Bool.or_eq_false_iff, Bool.and_eq_true, Bool.not_eq_true', Bool.not_eq_false', Bool.not_true, Bool.not_false, ints_length, List.length_map, Int.toNat_natCast] at *; omega)) (by first | omega | decide | (simp only [decide_eq_true_eq, decide_eq_false_iff_not, Bool.or_eq_false_iff, Bool.and_eq_true, Bool.not_eq_true', Bool.not_eq_false', Bool.not_true, Bool.not_false, ints_length, List.length_map, Int.toNat_natCast] at *; omega)) (by first | omega | decide | (simp only [decide_eq_true_eq, decide_eq_false_iff_not, Bool.or_eq_false_iff, Bool.and_eq_true, Bool.not_eq_true', Bool.not_eq_false', Bool.not_true, Bool.not_false, ints_length, List.length_map, Int.toNat_natCast] at *; omega))) |  rfl | exact fzP_pure (ints_pure _) | exact fzP_pure (u64s_pure _) | exact fzP_pure (by assumption) | exact fzP_pure (by first | (simp [pureE, pure1, ints]; done) | (simp_all [pe_int, pe_bool, pe_str, pe_sl, pe_agg, p1_int, p1_bool, p1_str, p1_sl]; done)))⟩, ⟨_, rfl, rfl, rfl, (by first | exact fzP_vals (fun _ => rfl) rfl | exact fzP_vals (fun _ => rfl) (congrArg entT (pre2_z p k).symm) | exact fzP_vals (fun _ => rfl) (congrArg entT (pre3_z p k j).symm) | exact fzP_vals (fun _ => rfl) (entT_3 (by first | omega | decide | (simp only [decide_eq_true_eq, decide_eq_false_iff_not, Bool.or_eq_false_iff, Bool.and_eq_true, Bool.not_eq_true', Bool.not_eq_false', Bool.not_true, Bool.not_false, ints_length, List.length_map, Int.toNat_natCast] at *; omega)) (by assumption)) | exact fzP_vals (fun _ => rfl) (entT_2 (by first | omega | decide | (simp only [decide_eq_true_eq, decide_eq_false_iff_not, Bool.or_eq_false_iff, Bool.and_eq_true, Bool.not_eq_true', Bool.not_eq_false', Bool.not_true, Bool.not_false, ints_length, List.length_map, Int.toNat_natCast] at *; omega)) (by first | omega | decide | (simp only [decide_eq_true_eq, decide_eq_false_iff_not, Bool.or_eq_false_iff, Bool.and_eq_true, Bool.not_eq_true', Bool.not_eq_false', Bool.not_true, Bool.not_false, ints_length, List.length_map, Int.toNat_natCast] at *; omega)) (by first | omega | decide | (simp only [decide_eq_true_eq, decide_eq_false_iff_not, Bool.or_eq_false_iff, Bool.and_eq_true, Bool.not_eq_true', Bool.not_eq_false', Bool.not_true, Bool.not_false, ints_length, List.length_map, Int.toNat_natCast] at *; omega))) | exact fzP_vals (fun _ => rfl) (entT_1 (by first | omega | decide | (simp only [decide_eq_true_eq, decide_eq_false_iff_not, Bool.or_eq_false_iff, Bool.and_eq_true, Bool.not_eq_true', Bool.not_eq_false', Bool.not_true, Bool.not_false, ints_length, List.length_map, Int.toNat_natCast] at *; omega)) (by first | omega | decide | (simp only [decide_eq_true_eq, decide_eq_false_iff_not, Bool.or_eq_false_iff, Bool.and_eq_true, Bool.not_eq_true', Bool.not_eq_false', Bool.not_true, Bool.not_false, ints_length, List.length_map, Int.toNat_natCast] at *; omega)) (by first | omega | decide | (simp only [decide_eq_true_eq, decide_eq_false_iff_not, Bool.or_eq_false_iff, Bool.and_eq_true, Bool.not_eq_true', Bool.not_eq_false', Bool.not_true, Bool.not_false, ints_length, List.length_map, Int.toNat_natCast] at *; omega))) |  rfl | exact fzP_pure (ints_pure _) | exact fzP_pure (u64s_pure _) | exact fzP_pure (by assumption) | exact fzP_pure (by first | (simp [pureE, pure1, ints]; done) | (simp_all [pe_int, pe_bool, pe_str, pe_sl, pe_agg, p1_int, p1_bool, p1_str, p1_sl]; done)))⟩, trivial⟩ ?_ ?_)); repeat (first | exact only_refl | refine only_put rfl ?_ | refine only_less rfl ?_ | refine only_ov rfl ?_))
    | (refine tr_loop_v (α := Nat) 4 (fun | i => [(50, some (.int .i64 (i : Int))), (51, none), (52, none), (53, none), (10, none), (54, none), (55, none), (56, none), (57, none), (58, none), (59, none), (60, none), (61, none), (2, none), (62, none), (63, none), (64, none), (65, none)]) (fun | i => [some ⟨0, 1, [pP p]⟩, some ⟨0, 2, (entT (pre3 p k j i)).map pM⟩, some ⟨0, 3, [pF (p.getD k F0)]⟩, some ⟨0, 3, [pB ((p.getD k F0).bs.getD j B0)]⟩]) (fun | i => i ≤ ((p.getD k F0).bs.getD j B0).code.length ∧ (pre3 p k j i).Nodup ∧ ((p.getD k F0).bs.getD j B0).code.length ≤ 1000) (fun | i => ((p.getD k F0).bs.getD j B0).code.length - i) (0) (ks := [50, 51, 52, 53, 10, 54, 55, 56, 57, 58, 59, 60, 61, 2, 62, 63, 64, 65]) (fun _ => rfl) (fun _ => rfl) rfl (by omega) ?_ ⟨⟨_, rfl, rfl⟩, trivial⟩ ⟨⟨_, rfl, rfl, rfl, (by first | exact fzP_vals (fun _ => rfl) rfl | exact fzP_vals (fun _ => rfl) (congrArg entT (pre2_z p k).symm) | exact fzP_vals (fun _ => rfl) (congrArg entT (pre3_z p k j).symm) | exact fzP_vals (fun _ => rfl) (entT_3 (by first | omega | decide | (simp only [decide_eq_true_eq, decide_eq_false_iff_not, Bool.or_eq_false_iff, Bool.and_eq_true, Bool.not_eq_true', Bool.not_eq_false', Bool.not_true, Bool.not_false, ints_length, List.length_map, Int.toNat_natCast] at *; omega)) (by assumption)) | exact fzP_vals (fun _ => rfl) (entT_2 (by first | omega | decide | (simp only [decide_eq_true_eq, decide_eq_false_iff_not, Bool.or_eq_false_iff, Bool.and_eq_true, Bool.not_eq_true', Bool.not_eq_false', Bool.not_true, Bool.not_false, ints_length, List.length_map, Int.toNat_natCast] at *; omega)) (by first | omega | decide | (simp only [decide_eq_true_eq, decide_eq_false_iff_not, Bool.or_eq_false_iff, Bool.and_eq_true, Bool.not_eq_true', Bool.not_eq_false', Bool.not_true, Bool.not_false, ints_length, List.length_map, Int.toNat_natCast] at *; omega)) (by first | omega | decide | (simp only [decide_eq_true_eq, decide_eq_false_iff_not, Bool.or_eq_false_iff, Bool.and_eq_true, Bool.not_eq_true', Bool.not_eq_false', Bool.not_true, Bool.not_false, ints_length, List.length_map, Int.toNat_natCast] at *; omega))) | exact fzP_vals (fun _ => rfl) (entT_1 (by first | omega | decide | (simp only [decide_eq_true_eq, decide_eq_false_iff_not, Bool.or_eq_false_iff, Bool.and_eq_true, Bool.not_eq_true', Bool.not_eq_false', Bool.not_true, Bool.not_false, ints_length, List.length_map, Int.toNat_natCast] at *; omega)) (by first | omega | decide | (simp only [decide_eq_true_eq, decide_eq_false_iff_not, Bool.or_eq_false_iff, Bool.and_eq_true, Bool.not_eq_true', Bool.not_eq_false', Bool.not_true, Bool.not_false, ints_length, List.length_map, Int.toNat_natCast] at *; omega)) (by first | omega | decide | (simp only [decide_eq_true_eq, decide_eq_false_iff_not, Bool.or_eq_false_iff, Bool.and_eq_true, Bool.not_eq_true', Bool.not_eq_false', Bool.not_true, Bool.not_false, ints_length, List.length_map, Int.toNat_natCast] at *; omega))) |  rfl | exact fzP_pure (ints_pure _) | exact fzP_pure (u64s_pure _) | exact fzP_pure (by assumption) | exact fzP_pure (by first | (simp [pureE, pure1, ints]; done) | (simp_all [pe_int, pe_bool, pe_str, pe_sl, pe_agg, p1_int, p1_bool, p1_str, p1_sl]; done)))⟩, ⟨_, rfl, rfl, rfl, (by first | exact fzP_vals (fun _ => rfl) rfl | exact fzP_vals (fun _ => rfl) (congrArg entT (pre2_z p k).symm) | exact fzP_vals (fun _ => rfl) (congrArg entT (pre3_z p k j).symm) | exact fzP_vals (fun _ => rfl) (entT_3 (by first | omega | decide | (simp only [decide_eq_true_eq, decide_eq_false_iff_not, Bool.or_eq_false_iff, Bool.and_eq_true, Bool.not_eq_true', Bool.not_eq_false', Bool.not_true, Bool.not_false, ints_length, List.length_map, Int.toNat_natCast] at *; omega)) (by assumption)) | exact fzP_vals (fun _ => rfl) (entT_2 (by first | omega | decide | (simp only [decide_eq_true_eq, decide_eq_false_iff_not, Bool.or_eq_false_iff, Bool.and_eq_true, Bool.not_eq_true', Bool.not_eq_false', Bool.not_true, Bool.not_false, ints_length, List.length_map, Int.toNat_natCast] at *; omega)) (by first | omega | decide | (simp only [decide_eq_true_eq, decide_eq_false_iff_not, Bool.or_eq_false_iff, Bool.and_eq_true, Bool.not_eq_true', Bool.not_eq_false', Bool.not_true, Bool.not_false, ints_length, List.length_map, Int.toNat_natCast] at *; omega)) (by first | omega | decide | (simp only [decide_eq_true_eq, decide_eq_false_iff_not, Bool.or_eq_false_iff, Bool.and_eq_true, Bool.not_eq_true', Bool.not_eq_false', Bool.not_true, Bool.not_false, ints_length, List.length_map, Int.toNat_natCast] at *; omega))) | exact fzP_vals (fun _ => rfl) (entT_1 (by first | omega | decide | (simp only [decide_eq_true_eq, decide_eq_false_iff_not, Bool.or_eq_false_iff, Bool.and_eq_true, Bool.not_eq_true', Bool.not_eq_false', Bool.not_true, Bool.not_false, ints_length, List.length_map, Int.toNat_natCast] at *; omega)) (by first | omega | decide | (simp only [decide_eq_true_eq, decide_eq_false_iff_not, Bool.or_eq_false_iff, Bool.and_eq_true, Bool.not_eq_true', Bool.not_eq_false', Bool.not_true, Bool.not_false, ints_length, List.length_map, Int.toNat_natCast] at *; omega)) (by first | omega | decide | (simp only [decide_eq_true_eq, decide_eq_false_iff_not, Bool.or_eq_false_iff, Bool.and_eq_true, Bool.not_eq_true', Bool.not_eq_false', Bool.not_true, Bool.not_false, ints_length, List.length_map, Int.toNat_natCast] at *; omega))) |  rfl | exact fzP_pure (ints_pure _) | exact fzP_pure (u64s_pure _) | exact fzP_pure (by assumption) | exact fzP_pure (by first | (simp [pureE, pure1, ints]; done) | (simp_all [pe_int, pe_bool, pe_str, pe_sl, pe_agg, p1_int, p1_bool, p1_str, p1_sl]; done)))⟩, ⟨_, rfl, rfl, rfl, (by first | exact fzP_vals (fun _ => rfl) rfl | exact fzP_vals (fun _ => rfl) (congrArg entT (pre2_z p k).symm) | exact fzP_vals (fun _ => rfl) (congrArg entT (pre3_z p k j).symm) | exact fzP_vals (fun _ => rfl) (entT_3 (by first | omega | decide | (simp only [decide_eq_true_eq, decide_eq_false_iff_not, Bool.or_eq_false_iff, Bool.and_eq_true, Bool.not_eq_true', Bool.not_eq_false', Bool.not_true, Bool.not_false, ints_length, List.length_map, Int.toNat_natCast] at *; omega)) (by assumption)) | exact fzP_vals (fun _ => rfl) (entT_2 (by first | omega | decide | (simp only [decide_eq_true_eq, decide_eq_false_iff_not, Bool.or_eq_false_iff, Bool.and_eq_true, Bool.not_eq_true', Bool.not_eq_false', Bool.not_true, Bool.not_false, ints_length, List.length_map, Int.toNat_natCast] at *; omega)) (by first | omega | decide | (simp only [decide_eq_true_eq, decide_eq_false_iff_not, Bool.or_eq_false_iff, Bool.and_eq_true, Bool.not_eq_true', Bool.not_eq_false', Bool.not_true, Bool.not_false, ints_length, List.length_map, Int.toNat_natCast] at *; omega)) (by first | omega | decide | (simp only [decide_eq_true_eq, decide_eq_false_iff_not, Bool.or_eq_false_iff, Bool.and_eq_true, Bool.not_eq_true', Bool.not_eq_false', Bool.not_true, Bool.not_false, ints_length, List.length_map, Int.toNat_natCast] at *; omega))) | exact fzP_vals (fun _ => rfl) (entT_1 (by first | omega | decide | (simp only [decide_eq_true_eq, decide_eq_false_iff_not, Bool.or_eq_false_iff, Bool.and_eq_true, Bool.not_eq_true', Bool.not_eq_false', Bool.not_true, Bool.not_false, ints_length, List.length_map, Int.toNat_natCast] at *; omega)) (by first | omega | decide | (simp only [decide_eq_true_eq, decide_eq_false_iff_not, Bool.or_eq_false_iff, Bool.and_eq_true, Bool.not_eq_true', Bool.not_eq_false', Bool.not_true, Bool.not_false, ints_length, List.length_map, Int.toNat_natCast] at *; omega)) (by first | omega | decide | (simp only [decide_eq_true_eq, decide_eq_false_iff_not, Bool.or_eq_false_iff, Bool.and_eq_true, Bool.not_eq_true', Bool.not_eq_false', Bool.not_true, Bool.not_false, ints_length, List.length_map, Int.toNat_natCast] at *; omega))) |  rfl | exact fzP_pure (ints_pure _) | exact fzP_pure (u64s_pure _) | exact fzP_pure (by assumption) | exact fzP_pure (by first | (simp [pureE, pure1, ints]; done) | (simp_all [pe_int, pe_bool, pe_str, pe_sl, pe_agg, p1_int, p1_bool, p1_str, p1_sl]; done)))⟩, ⟨_, rfl, rfl, rfl, (by first | exact fzP_vals (fun _ => rfl) rfl | exact fzP_vals (fun _ => rfl) (congrArg entT (pre2_z p k).symm) | exact fzP_vals (fun _ => rfl) (congrArg entT (pre3_z p k j).symm) | exact fzP_vals (fun _ => rfl) (entT_3 (by first | omega | decide | (simp only [decide_eq_true_eq, decide_eq_false_iff_not, Bool.or_eq_false_iff, Bool.and_eq_true, Bool.not_eq_true', Bool.not_eq_false', Bool.not_true, Bool.not_false, ints_length, List.length_map, Int.toNat_natCast] at *; omega)) (by assumption)) | exact fzP_vals (fun _ => rfl) (entT_2 (by first | omega | decide | (simp only [decide_eq_true_eq, decide_eq_false_iff_not, Bool.or_eq_false_iff, Bool.and_eq_true, Bool.not_eq_true', Bool.not_eq_false', Bool.not_true, Bool.not_false, ints_length, List.length_map, Int.toNat_natCast] at *; omega)) (by first | omega | decide | (simp only [decide_eq_true_eq, decide_eq_false_iff_not, Bool.or_eq_false_iff, Bool.and_eq_true, Bool.not_eq_true', Bool.not_eq_false', Bool.not_true, Bool.not_false, ints_length, List.length_map, Int.toNat_natCast] at *; omega)) (by first | omega | decide | (simp only [decide_eq_true_eq, decide_eq_false_iff_not, Bool.or_eq_false_iff, Bool.and_eq_true, Bool.not_eq_true', Bool.not_eq_false', Bool.not_true, Bool.not_false, ints_length, List.length_map, Int.toNat_natCast] at *; omega))) | exact fzP_vals (fun _ => rfl) (entT_1 (by first | omega | decide | (simp only [decide_eq_true_eq, decide_eq_false_iff_not, Bool.or_eq_false_iff, Bool.and_eq_true, Bool.not_eq_true', Bool.not_eq_false', Bool.not_true, Bool.not_false, ints_length, List.length_map, Int.toNat_natCast] at *; omega)) (by first | omega | decide | (simp only [decide_eq_true_eq, decide_eq_false_iff_not, Bool.or_eq_false_iff, Bool.and_eq_true, Bool.not_eq_true', Bool.not_eq_false', Bool.not_true, Bool.not_false, ints_length, List.length_map, Int.toNat_natCast] at *; omega)) (by first | omega | decide | (simp only [decide_eq_true_eq, decide_eq_false_iff_not, Bool.or_eq_false_iff, Bool.and_eq_true, Bool.not_eq_true', Bool.not_eq_false', Bool.not_true, Bool.not_false, ints_length, List.length_map, Int.toNat_natCast] at *; omega))) |  rfl | exact fzP_pure (ints_pure _) | exact fzP_pure (u64s_pure _) | exact fzP_pure (by assumption) | exact fzP_pure (by first | (simp [pureE, pure1, ints]; done) | (simp_all [pe_int, pe_bool, pe_str, pe_sl, pe_agg, p1_int, p1_bool, p1_str, p1_sl]; done)))⟩, trivial⟩ ?_; rotate_left; rintro i hx; try dsimp only at hx)
    | ((first | (refine loopV_normal (i + 1) ?_ ⟨⟨_, rfl, rfl⟩, trivial⟩ ⟨⟨_, rfl, rfl, rfl, (by first | exact fzP_vals (fun _ => rfl) rfl | exact fzP_vals (fun _ => rfl) (congrArg entT (pre2_z p k).symm) | exact fzP_vals (fun _ => rfl) (congrArg entT (pre3_z p k j).symm) | exact fzP_vals (fun _ => rfl) (entT_3 (by first | omega | decide | (simp only [decide_eq_true_eq, decide_eq_false_iff_not, Bool.or_eq_false_iff, Bool.and_eq_true, Bool.not_eq_true', Bool.not_eq_false', Bool.not_true, Bool.not_false, ints_length, List.length_map, Int.toNat_natCast] at *; omega)) (by assumption)) | exact fzP_vals (fun _ => rfl) (entT_2 (by first | omega | decide | (simp only [decide_eq_true_eq, decide_eq_false_iff_not, Bool.or_eq_false_iff, Bool.and_eq_true, Bool.not_eq_true', Bool.not_eq_false', Bool.not_true, Bool.not_false, ints_length, List.length_map, Int.toNat_natCast] at *; omega)) (by first | omega | decide | (simp only [decide_eq_true_eq, decide_eq_false_iff_not, Bool.or_eq_false_iff, Bool.and_eq_true, Bool.not_eq_true', Bool.not_eq_false', Bool.not_true, Bool.not_false, ints_length, List.length_map, Int.toNat_natCast] at *; omega)) (by first | omega | decide | (simp only [decide_eq_true_eq, decide_eq_false_iff_not, Bool.or_eq_false_iff, Bool.and_eq_true, Bool.not_eq_true', Bool.not_eq_false', Bool.not_true, Bool.not_false, ints_length, List.length_map, Int.toNat_natCast] at *; omega))) | exact fzP_vals (fun _ => rfl) (entT_1 (by first | omega | decide | (simp only [decide_eq_true_eq, decide_eq_false_iff_not, Bool.or_eq_false_iff, Bool.and_eq_true, Bool.not_eq_true', Bool.not_eq_false', Bool.not_true, Bool.not_false, ints_length, List.length_map, Int.toNat_natCast] at *; omega)) (by first | omega | decide | (simp only [decide_eq_true_eq, decide_eq_false_iff_not, Bool.or_eq_false_iff, Bool.and_eq_true, Bool.not_eq_true', Bool.not_eq_false', Bool.not_true, Bool.not_false, ints_length, List.length_map, Int.toNat_natCast] at *; omega)) (by first | omega | decide | (simp only [decide_eq_true_eq, decide_eq_false_iff_not, Bool.or_eq_false_iff, Bool.and_eq_true, Bool.not_eq_true', Bool.not_eq_false', Bool.not_true, Bool.not_false, ints_length, List.length_map, Int.toNat_natCast] at *; omega))) |  rfl | exact fzP_pure (ints_pure _) | exact fzP_pure (u64s_pure _) | exact fzP_pure (by assumption) | exact fzP_pure (by first | (simp [pureE, pure1, ints]; done) | (simp_all [pe_int, pe_bool, pe_str, pe_sl, pe_agg, p1_int, p1_bool, p1_str, p1_sl]; done)))⟩, ⟨_, rfl, rfl, rfl, (by first | exact fzP_vals (fun _ => rfl) rfl | exact fzP_vals (fun _ => rfl) (congrArg entT (pre2_z p k).symm) | exact fzP_vals (fun _ => rfl) (congrArg entT (pre3_z p k j).symm) | exact fzP_vals (fun _ => rfl) (entT_3 (by first | omega | decide | (simp only [decide_eq_true_eq, decide_eq_false_iff_not, Bool.or_eq_false_iff, Bool.and_eq_true, Bool.not_eq_true', Bool.not_eq_false', Bool.not_true, Bool.not_false, ints_length, List.length_map, Int.toNat_natCast] at *; omega)) (by assumption)) | exact fzP_vals (fun _ => rfl) (entT_2 (by first | omega | decide | (simp only [decide_eq_true_eq, decide_eq_false_iff_not, Bool.or_eq_false_iff, Bool.and_eq_true, Bool.not_eq_true', Bool.not_eq_false', Bool.not_true, Bool.not_false, ints_length, List.length_map, Int.toNat_natCast] at *; omega)) (by first | omega | decide | (simp only [decide_eq_true_eq, decide_eq_false_iff_not, Bool.or_eq_false_iff, Bool.and_eq_true, Bool.not_eq_true', Bool.not_eq_false', Bool.not_true, Bool.not_false, ints_length, List.length_map, Int.toNat_natCast] at *; omega)) (by first | omega | decide | (simp only [decide_eq_true_eq, decide_eq_false_iff_not, Bool.or_eq_false_iff, Bool.and_eq_true, Bool.not_eq_true', Bool.not_eq_false', Bool.not_true, Bool.not_false, ints_length, List.length_map, Int.toNat_natCast] at *; omega))) | exact fzP_vals (fun _ => rfl) (entT_1 (by first | omega | decide | (simp only [decide_eq_true_eq, decide_eq_false_iff_not, Bool.or_eq_false_iff, Bool.and_eq_true, Bool.not_eq_true', Bool.not_eq_false', Bool.not_true, Bool.not_false, ints_length, List.length_map, Int.toNat_natCast] at *; omega)) (by first | omega | decide | (simp only [decide_eq_true_eq, decide_eq_false_iff_not, Bool.or_eq_false_iff, Bool.and_eq_true, Bool.not_eq_true', Bool.not_eq_false', Bool.not_true, Bool.not_false, ints_length, List.length_map, Int.toNat_natCast] at *; omega)) (by first | omega | decide | (simp only [decide_eq_true_eq, decide_eq_false_iff_not, Bool.or_eq_false_iff, Bool.and_eq_true, Bool.not_eq_true', Bool.not_eq_false', Bool.not_true, Bool.not_false, ints_length, List.length_map, Int.toNat_natCast] at *; omega))) |  rfl | exact fzP_pure (ints_pure _) | exact fzP_pure (u64s_pure _) | exact fzP_pure (by assumption) | exact fzP_pure (by first | (simp [pureE, pure1, ints]; done) | (simp_all [pe_int, pe_bool, pe_str, pe_sl, pe_agg, p1_int, p1_bool, p1_str, p1_sl]; done)))⟩, ⟨_, rfl, rfl, rfl, (by first | exact fzP_vals (fun _ => rfl) rfl | exact fzP_vals (fun _ => rfl) (congrArg entT (pre2_z p k).symm) | exact fzP_vals (fun _ => rfl) (congrArg entT (pre3_z p k j).symm) | exact fzP_vals (fun _ => rfl) (entT_3 (by first | omega | decide | (simp only [decide_eq_true_eq, decide_eq_false_iff_not, Bool.or_eq_false_iff, Bool.and_eq_true, Bool.not_eq_true', Bool.not_eq_false', Bool.not_true, Bool.not_false, ints_length, List.length_map, Int.toNat_natCast] at *; omega)) (by assumption)) | exact fzP_vals (fun _ => rfl) (entT_2 (by first | omega | decide | (simp only [decide_eq_true_eq, decide_eq_false_iff_not, Bool.or_eq_false_iff, Bool.and_eq_true, Bool.not_eq_true', Bool.not_eq_false', Bool.not_true, Bool.not_false, ints_length, List.length_map, Int.toNat_natCast] at *; omega)) (by first | omega | decide | (simp only [decide_eq_true_eq, decide_eq_false_iff_not, Bool.or_eq_false_iff, Bool.and_eq_true, Bool.not_eq_true', Bool.not_eq_false', Bool.not_true, Bool.not_false, ints_length, List.length_map, Int.toNat_natCast] at *; omega)) (by first | omega | decide | (simp only [decide_eq_true_eq, decide_eq_false_iff_not, Bool.or_eq_false_iff, Bool.and_eq_true, Bool.not_eq_true', Bool.not_eq_false', Bool.not_true, Bool.not_false, ints_length, List.length_map, Int.toNat_natCast] at *; omega))) | exact fzP_vals (fun _ => rfl) (entT_1 (by first | omega | decide | (simp only [decide_eq_true_eq, decide_eq_false_iff_not, Bool.or_eq_false_iff, Bool.and_eq_true, Bool.not_eq_true', Bool.not_eq_false', Bool.not_true, Bool.not_false, ints_length, List.length_map, Int.toNat_natCast] at *; omega)) (by first | omega | decide | (simp only [decide_eq_true_eq, decide_eq_false_iff_not, Bool.or_eq_false_iff, Bool.and_eq_true, Bool.not_eq_true', Bool.not_eq_false', Bool.not_true, Bool.not_false, ints_length, List.length_map, Int.toNat_natCast] at *; omega)) (by first | omega | decide | (simp only [decide_eq_true_eq, decide_eq_false_iff_not, Bool.or_eq_false_iff, Bool.and_eq_true, Bool.not_eq_true', Bool.not_eq_false', Bool.not_true, Bool.not_false, ints_length, List.length_map, Int.toNat_natCast] at *; omega))) |  rfl | exact fzP_pure (ints_pure _) | exact fzP_pure (u64s_pure _) | exact fzP_pure (by assumption) | exact fzP_pure (by first | (simp [pureE, pure1, ints]; done) | (simp_all [pe_int, pe_bool, pe_str, pe_sl, pe_agg, p1_int, p1_bool, p1_str, p1_sl]; done)))⟩, ⟨_, rfl, rfl, rfl, (by first | exact fzP_vals (fun _ => rfl) rfl | exact fzP_vals (fun _ => rfl) (congrArg entT (pre2_z p k).symm) | exact fzP_vals (fun _ => rfl) (congrArg entT (pre3_z p k j).symm) | exact fzP_vals (fun _ => rfl) (entT_3 (by first | omega | decide | (simp only [decide_eq_true_eq, decide_eq_false_iff_not, Bool.or_eq_false_iff, Bool.and_eq_true, Bool.not_eq_true', Bool.not_eq_false', Bool.not_true, Bool.not_false, ints_length, List.length_map, Int.toNat_natCast] at *; omega)) (by assumption)) | exact fzP_vals (fun _ => rfl) (entT_2 (by first | omega | decide | (simp only [decide_eq_true_eq, decide_eq_false_iff_not, Bool.or_eq_false_iff, Bool.and_eq_true, Bool.not_eq_true', Bool.not_eq_false', Bool.not_true, Bool.not_false, ints_length, List.length_map, Int.toNat_natCast] at *; omega)) (by first | omega | decide | (simp only [decide_eq_true_eq, decide_eq_false_iff_not, Bool.or_eq_false_iff, Bool.and_eq_true, Bool.not_eq_true', Bool.not_eq_false', Bool.not_true, Bool.not_false, ints_length, List.length_map, Int.toNat_natCast] at *; omega)) (by first | omega | decide | (simp only [decide_eq_true_eq, decide_eq_false_iff_not, Bool.or_eq_false_iff, Bool.and_eq_true, Bool.not_eq_true', Bool.not_eq_false', Bool.not_true, Bool.not_false, ints_length, List.length_map, Int.toNat_natCast] at *; omega))) | exact fzP_vals (fun _ => rfl) (entT_1 (by first | omega | decide | (simp only [decide_eq_true_eq, decide_eq_false_iff_not, Bool.or_eq_false_iff, Bool.and_eq_true, Bool.not_eq_true', Bool.not_eq_false', Bool.not_true, Bool.not_false, ints_length, List.length_map, Int.toNat_natCast] at *; omega)) (by first | omega | decide | (simp only [decide_eq_true_eq, decide_eq_false_iff_not, Bool.or_eq_false_iff, Bool.and_eq_true, Bool.not_eq_true', Bool.not_eq_false', Bool.not_true, Bool.not_false, ints_length, List.length_map, Int.toNat_natCast] at *; omega)) (by first | omega | decide | (simp only [decide_eq_true_eq, decide_eq_false_iff_not, Bool.or_eq_false_iff, Bool.and_eq_true, Bool.not_eq_true', Bool.not_eq_false', Bool.not_true, Bool.not_false, ints_length, List.length_map, Int.toNat_natCast] at *; omega))) |  rfl | exact fzP_pure (ints_pure _) | exact fzP_pure (u64s_pure _) | exact fzP_pure (by assumption) | exact fzP_pure (by first | (simp [pureE, pure1, ints]; done) | (simp_all [pe_int, pe_bool, pe_str, pe_sl, pe_agg, p1_int, p1_bool, p1_str, p1_sl]; done)))⟩, trivial⟩ ?_ ?_)); repeat (first | exact only_refl | refine only_put rfl ?_ | refine only_less rfl ?_ | refine only_ov rfl ?_))
    | ((with_reducible apply n_val); rfl; rfl)
    | ((with_reducible apply n_new); rfl; (first | (simp only [hn0, hn1, hn2, hn3, hn4, hn5, List.length_cons, List.length_nil, Nat.reduceAdd, Nat.zero_add]; done) | (simp only [hn0, hn1, hn2, hn3, hn4, hn5, List.length_cons, List.length_nil, Nat.reduceAdd, Nat.zero_add]; rfl) | rfl); rfl)
    | ((with_reducible apply n_store); rfl; rfl; rfl; rfl; rfl)
    | (with_reducible refine condT_split (fun h => ?_) (fun h => ?_))
    | ((with_reducible apply fnQ_told_ret); rfl)
    | ((with_reducible apply fnQ_ret_soft); rfl; rfl)
  all_goals (try dsimp only at *)
  all_goals (try simp only [decide_eq_true_eq, decide_eq_false_iff_not, List.length_map] at *)
  · exact chk_f (sane_many (by omega))
  · exact chk_f (sane_fun (k := k) (by omega) (okF_of (b := true) (by assumption)))
  · refine chk_f (sane_twice (k := k) (j := j) (i := i) (by omega) (by simp only [Int.toNat_natCast] at *; omega) (by simp only [Int.toNat_natCast] at *; omega) ?_)
    rw [← look_entT]
    assumption
  · simp only [Int.toNat_natCast] at *; omega
  · refine ⟨by simp only [Int.toNat_natCast] at *; omega, ?_, hx.2.2⟩
    rw [pre3_s (by simp only [Int.toNat_natCast] at *; omega)]
    refine snoc_nodup hx.2.1 ?_
    rw [← look_entT]
    assumption
  · simp only [Int.toNat_natCast] at *; omega
  · refine ⟨by simp only [Int.toNat_natCast] at *; omega, ?_, by simp only [Int.toNat_natCast] at *; omega⟩
    have e : i = ((p.getD k F0).bs.getD j B0).code.length := by simp only [Int.toNat_natCast] at *; omega
    have h3 := hx.2.1
    rw [e] at h3
    rw [pre2_s (by simp only [Int.toNat_natCast] at *; omega)]
    exact h3
  · rw [pre3_z]
    exact ⟨Nat.zero_le _, hx.2.1, hc k (by simp only [Int.toNat_natCast] at *; omega) j (by simp only [Int.toNat_natCast] at *; omega)⟩
  · omega
  · rename_i q1 q2 q3 q4
    have e : j = (p.getD k F0).bs.length := by simp only [Int.toNat_natCast] at *; omega
    have h3 := hx.2.1
    rw [e] at h3
    refine ⟨by omega, fun m hm => ?_, by rw [pre1_s (by omega)]; exact h3⟩
    by_cases e2 : m = k
    · subst e2; exact okF_of (b := false) (by assumption)
    · exact q1.2.1 m (by omega)
  · rw [pre2_z]
    exact ⟨Nat.zero_le _, hx.2.2, hb k (by omega)⟩
  · have e : k = p.length := by omega
    rw [chk_t (sane_yes (by omega) (fun j hj => hx.2.1 j (by omega)) (by rw [← e]; exact hx.2.2))]
    exact Wk.rfl
  · exact ⟨Nat.zero_le _, fun j hj => absurd hj (by omega), by rw [pre1_z]; exact List.nodup_nil⟩
theorem p_Sane (p : List Fn) (hp : Fit p) : Pure Go.Proofs.Tryd.prog glD 8 [pP p] (.bool (sane p)) := by
  have hc := p_check p hp
  cases hs : sane p with
  | true =>
    rw [chk_t hs] at hc
    refine Pure.fn hmix b8 ?_
    repeat' first
      | with_reducible refine tr_seq ?_
      | ((with_reducible refine tr_region_f ?_ ?_); kernel_rfl)
      | with_reducible refine n_nil ?_
      | with_reducible refine seqQ_normal ?_
      | with_reducible refine seqQ_ret ?_
      | with_reducible refine blkQ_ret ?_
      | with_reducible refine tr_ret ?_
      | ((with_reducible apply n_call (f := 17)); rfl; rfl; exact hc)
      | ((with_reducible apply n_val); rfl; rfl)
      | ((with_reducible apply n_new); rfl; (first | (simp only [hn0, hn1, hn2, hn3, hn4, hn5, List.length_cons, List.length_nil, Nat.reduceAdd, Nat.zero_add]; done) | (simp only [hn0, hn1, hn2, hn3, hn4, hn5, List.length_cons, List.length_nil, Nat.reduceAdd, Nat.zero_add]; rfl) | rfl); rfl)
      | ((with_reducible apply n_spec (f := 16)); rfl; exact h_As_nil _ _; exact Nat.le_refl _)
      | ((with_reducible apply fnQ_told_ret); rfl)
      | ((with_reducible apply fnQ_ret_soft); rfl; rfl)
    rfl
  | false =>
    rw [chkV, hs] at hc
    refine Pure.fn hmix b8 ?_
    repeat' first
      | with_reducible refine tr_seq ?_
      | ((with_reducible refine tr_region_f ?_ ?_); kernel_rfl)
      | with_reducible refine n_nil ?_
      | with_reducible refine seqQ_normal ?_
      | with_reducible refine seqQ_ret ?_
      | with_reducible refine blkQ_ret ?_
      | with_reducible refine tr_ret ?_
      | ((with_reducible apply n_call (f := 17)); rfl; rfl; exact hc)
      | ((with_reducible apply n_val); rfl; rfl)
      | ((with_reducible apply n_new); rfl; (first | (simp only [hn0, hn1, hn2, hn3, hn4, hn5, List.length_cons, List.length_nil, Nat.reduceAdd, Nat.zero_add]; done) | (simp only [hn0, hn1, hn2, hn3, hn4, hn5, List.length_cons, List.length_nil, Nat.reduceAdd, Nat.zero_add]; rfl) | rfl); rfl)
      | ((with_reducible apply n_spec (f := 16)); rfl; exact h_As_hit [] _ 1 rfl rfl; exact Nat.le_refl _)
      | ((with_reducible apply fnQ_told_ret); rfl)
      | ((with_reducible apply fnQ_ret_soft); rfl; rfl)
    rfl
theorem p_Fun (p : List Fn) (f : Int) (hp : Fit p) : Pure Go.Proofs.Tryd.prog glD 12 [pP p, .int .i64 f] (oT pF F0 (funV p f)) := by
  have hs := p_Sane p hp
  refine Pure.fn hmix b12 ?_
  repeat' first
    | with_reducible refine tr_seq ?_
    | ((with_reducible refine tr_region_f ?_ ?_); kernel_rfl)
    | with_reducible refine n_nil ?_
    | exact ⟨rfl, rfl⟩
    | with_reducible refine seqQ_normal ?_
    | with_reducible refine seqQ_ret ?_
    | with_reducible refine blkQ_ret ?_
    | with_reducible refine tr_skip ?_
    | with_reducible refine tr_ret ?_
    | ((with_reducible apply tr_cond_e); rfl)
    | with_reducible refine condT_t ?_
    | with_reducible refine condT_f ?_
    | ((with_reducible apply n_and); rfl; rfl; intro h)
    | ((with_reducible apply n_or); rfl; rfl; intro h)
    | ((with_reducible apply n_call (f := 8)); rfl; rfl; exact hs)
    | ((with_reducible apply n_idx_vals F0); rfl; rfl; exact (fun _ => rfl); (first | omega | decide | (simp only [decide_eq_true_eq, decide_eq_false_iff_not, Bool.or_eq_false_iff, Bool.and_eq_true, Bool.not_eq_true', Bool.not_eq_false', Bool.not_true, Bool.not_false, ints_length, List.length_map, Int.toNat_natCast] at *; omega)))
    | ((with_reducible apply n_val); rfl; rfl)
    | ((with_reducible apply n_new); rfl; (first | (simp only [hn0, hn1, hn2, hn3, hn4, hn5, List.length_cons, List.length_nil, Nat.reduceAdd, Nat.zero_add]; done) | (simp only [hn0, hn1, hn2, hn3, hn4, hn5, List.length_cons, List.length_nil, Nat.reduceAdd, Nat.zero_add]; rfl) | rfl); rfl)
    | ((with_reducible apply n_store); rfl; rfl; rfl; rfl; rfl)
    | (with_reducible refine condT_split (fun h => ?_) (fun h => ?_))
    | ((with_reducible apply fnQ_told_ret); rfl)
    | ((with_reducible apply fnQ_ret_soft); rfl; rfl)
  · simp only [List.length_map] at h
    rw [funV_no h]; rfl
  · simp only [List.length_map] at h
    rw [funV_yes h]; rfl
theorem p_Block (p : List Fn) (f b : Int) (hp : Fit p) : Pure Go.Proofs.Tryd.prog glD 13 [pP p, .int .i64 f, .int .i64 b] (oT pB B0 (blkV p f b)) := by
  have hf : Pure Go.Proofs.Tryd.prog glD 12 [pP p, .int .i64 f] (.tup [pF ((funV p f).getD F0), .bool (funV p f).isSome]) := p_Fun p f hp
  have hl := p_live (gl := glD) ((funV p f).getD F0) b
  have h1 : liveF ((funV p f).getD F0) b = false → blkV p f b = none := fun h => by rw [blkV, h]; rfl
  have h2 : liveF ((funV p f).getD F0) b = true → blkV p f b = some (((funV p f).getD F0).bs.getD b.toNat B0) := fun h => by rw [blkV, if_pos h]
  have h3 : liveF ((funV p f).getD F0) b = true → 0 ≤ b ∧ b < (((funV p f).getD F0).bs.length : Nat) := fun h => by
    simp only [liveF, Bool.and_eq_true, decide_eq_true_eq] at h
    exact h.1
  generalize (funV p f).getD F0 = g at *
  generalize (funV p f).isSome = o at *
  refine Pure.fn hmix b13 ?_
  repeat' first
    | with_reducible refine tr_seq ?_
    | ((with_reducible refine tr_region_f ?_ ?_); kernel_rfl)
    | with_reducible refine n_nil ?_
    | with_reducible refine seqQ_normal ?_
    | with_reducible refine seqQ_ret ?_
    | with_reducible refine blkQ_ret ?_
    | with_reducible refine tr_skip ?_
    | with_reducible refine tr_ret ?_
    | ((with_reducible apply tr_cond_e); rfl)
    | with_reducible refine condT_t ?_
    | with_reducible refine condT_f ?_
    | ((with_reducible apply n_call (f := 12)); rfl; rfl; exact hf)
    | ((with_reducible apply n_call (f := 21)); rfl; rfl; exact hl)
    | ((with_reducible apply n_idx_vals B0); rfl; rfl; exact (fun _ => rfl); exact h3 (by simpa using h))
    | ((with_reducible apply n_val); rfl; rfl)
    | ((with_reducible apply n_new); rfl; (first | (simp only [hn0, hn1, hn2, hn3, hn4, hn5, List.length_cons, List.length_nil, Nat.reduceAdd, Nat.zero_add]; done) | (simp only [hn0, hn1, hn2, hn3, hn4, hn5, List.length_cons, List.length_nil, Nat.reduceAdd, Nat.zero_add]; rfl) | rfl); rfl)
    | ((with_reducible apply n_store); rfl; rfl; rfl; rfl; rfl)
    | (with_reducible refine condT_split (fun h => ?_) (fun h => ?_))
    | ((with_reducible apply fnQ_told_ret); rfl)
    | ((with_reducible apply fnQ_ret_soft); rfl; rfl)
  · rw [h1 (by simpa using h)]; rfl
  · rw [h2 (by simpa using h)]; rfl
end Go.Vm
end
