/- Laid. -/
import Derived.Test.YtlcbceneacnaiaaDoorVmThree
import Derived.KernelRfl
import Derived.Test.YtlcbceneacnaiaaDoorProg
import Derived.Test.YtlcbceneacnaiaaDoorXinstrO
import Derived.Test.YtlcbceneacnaiaaDoorLAll
section
/- Code. -/
set_option maxRecDepth 100000
set_option linter.unusedSimpArgs false
set_option linter.unusedVariables false
namespace Go.Vm
open Go

/-- bywash/bywashref05.Form -/
def c17 : RFn := ⟨(.seq (.region (Nodes.flat none (.op (some 1) (.box (.t 0)) 0
  (.op (some 2) (.move (.c (.bool false))) 0
  .nil))) false)
 (.seq (.region (Nodes.flat none (.op (some 5) (.fieldAddr 1 (.t 1)) 0
  (.op (some 6) (.load none (.t 5)) 0
  (.op (some 3) (.move (.t 6)) 0
  .nil)))) false)
 (.seq (.seq (.region (Nodes.flat none (.op (some 7) (.move (.t 3)) 0
  (.op (some 8) (.bin .lss (.t 7) (.c (.int .i64 0))) 0
  (.op (some 9) (.move (.t 8)) 0
  (.grd 9 false
  (.op (some 10) (.move (.t 3)) 0
  (.op (some 11) (.bin .gtr (.t 10) (.c (.int .i64 9))) 0
  .nil))
  (.op (some 12) (.pick (.t 9) (.c (.bool true)) (.t 11)) 0
  (.op (some 13) (.move (.t 12)) 0
  (.grd 13 false
  (.op (some 14) (.fieldAddr 0 (.t 1)) 0
  (.op (some 15) (.load none (.t 14)) 0
  (.op (some 16) (.bin .lss (.t 15) (.c (.int .i64 0))) 0
  .nil)))
  (.op (some 17) (.pick (.t 13) (.c (.bool true)) (.t 16)) 0
  (.op (some 18) (.move (.t 17)) 0
  (.grd 18 false
  (.op (some 19) (.fieldAddr 0 (.t 1)) 0
  (.op (some 20) (.load none (.t 19)) 0
  (.op (some 21) (.bin .gtr (.t 20) (.c (.int .i64 95))) 0
  .nil)))
  (.op (some 22) (.pick (.t 18) (.c (.bool true)) (.t 21)) 0
  (.op (some 23) (.move (.t 22)) 0
  (.grd 23 false
  (.op (some 24) (.fieldAddr 7 (.t 1)) 0
  (.op (some 25) (.load none (.t 24)) 0
  (.op (some 26) (.bin .lss (.t 25) (.c (.int .i64 0))) 0
  .nil)))
  (.op (some 27) (.pick (.t 23) (.c (.bool true)) (.t 26)) 0
  (.op (some 28) (.move (.t 27)) 0
  (.grd 28 false
  (.op (some 29) (.fieldAddr 7 (.t 1)) 0
  (.op (some 30) (.load none (.t 29)) 0
  (.op (some 31) (.bin .gtr (.t 30) (.c (.int .i64 3))) 0
  .nil)))
  (.op (some 32) (.pick (.t 28) (.c (.bool true)) (.t 31)) 0
  .nil)))))))))))))))))) false)
 (.cond (.t 32)
 (.seq (.region (Nodes.flat none (.op (some 2) (.move (.c (.bool false))) 0
  .nil)) false)
 .ret)
 .skip))
 (.seq (.seq (.region (Nodes.flat none (.op (some 33) (.move (.t 3)) 0
  (.op (some 34) (.call 45 [(.t 33)]) 1
  (.op (some 35) (.fieldAddr 2 (.t 1)) 0
  (.op (some 36) (.load none (.t 35)) 4
  (.op (some 37) (.call 44 [(.t 34), (.t 36)]) 15
  (.op (some 38) (.un .not (.t 37)) 31
  (.op (some 39) (.move (.t 38)) 63
  (.grd 39 false
  (.op (some 40) (.move (.t 3)) 127
  (.op (some 41) (.call 46 [(.t 40)]) 255
  (.op (some 42) (.fieldAddr 3 (.t 1)) 127
  (.op (some 43) (.load none (.t 42)) 639
  (.op (some 44) (.call 44 [(.t 41), (.t 43)]) 2047
  (.op (some 45) (.un .not (.t 44)) 4095
  .nil))))))
  (.op (some 46) (.pick (.t 39) (.c (.bool true)) (.t 45)) 8191
  (.op (some 47) (.move (.t 46)) 16383
  (.grd 47 false
  (.op (some 48) (.move (.t 3)) 32767
  (.op (some 49) (.call 47 [(.t 48)]) 65535
  (.op (some 50) (.fieldAddr 4 (.t 1)) 32767
  (.op (some 51) (.load none (.t 50)) 163839
  (.op (some 52) (.call 44 [(.t 49), (.t 51)]) 524287
  (.op (some 53) (.un .not (.t 52)) 1048575
  .nil))))))
  (.op (some 54) (.pick (.t 47) (.c (.bool true)) (.t 53)) 2097151
  (.op (some 55) (.move (.t 54)) 4194303
  (.grd 55 false
  (.op (some 56) (.move (.t 3)) 8388607
  (.op (some 57) (.bin .eql (.t 56) (.c (.int .i64 7))) 16777215
  (.op (some 58) (.fieldAddr 6 (.t 1)) 8388607
  (.op (some 59) (.load none (.t 58)) 41943039
  (.op (some 60) (.call 44 [(.t 57), (.t 59)]) 134217727
  (.op (some 61) (.un .not (.t 60)) 268435455
  .nil))))))
  (.op (some 62) (.pick (.t 55) (.c (.bool true)) (.t 61)) 536870911
  (.op (some 63) (.move (.t 62)) 1073741823
  (.grd 63 false
  (.op (some 64) (.move (.t 3)) 2147483647
  (.op (some 65) (.bin .eql (.t 64) (.c (.int .i64 7))) 4294967295
  (.op (some 66) (.fieldAddr 7 (.t 1)) 2147483647
  (.op (some 67) (.load none (.t 66)) 10737418239
  (.op (some 68) (.call 44 [(.t 65), (.t 67)]) 34359738367
  (.op (some 69) (.un .not (.t 68)) 68719476735
  .nil))))))
  (.op (some 70) (.pick (.t 63) (.c (.bool true)) (.t 69)) 137438953471
  .nil))))))))))))))))))) true)
 (.cond (.t 70)
 (.seq (.region (Nodes.flat none (.op (some 2) (.move (.c (.bool false))) 0
  .nil)) false)
 .ret)
 .skip))
 (.seq (.seq (.region (Nodes.flat none (.op (some 71) (.move (.t 3)) 0
  (.op (some 72) (.bin .neq (.t 71) (.c (.int .i64 0))) 0
  (.op (some 73) (.move (.t 72)) 0
  (.grd 73 true
  (.op (some 74) (.fieldAddr 5 (.t 1)) 0
  (.op (some 75) (.load none (.t 74)) 0
  (.op (some 76) (.bin .neq (.t 75) (.c (.int .i64 0))) 0
  .nil)))
  (.op (some 77) (.pick (.t 73) (.t 76) (.c (.bool false))) 0
  (.op (some 78) (.move (.t 77)) 0
  (.grd 78 false
  (.op (some 79) (.fieldAddr 5 (.t 1)) 0
  (.op (some 80) (.load none (.t 79)) 0
  (.op (some 81) (.bin .lss (.t 80) (.c (.int .i64 (-2147483648)))) 0
  .nil)))
  (.op (some 82) (.pick (.t 78) (.c (.bool true)) (.t 81)) 0
  (.op (some 83) (.move (.t 82)) 0
  (.grd 83 false
  (.op (some 84) (.fieldAddr 5 (.t 1)) 0
  (.op (some 85) (.load none (.t 84)) 0
  (.op (some 86) (.bin .gtr (.t 85) (.c (.int .i64 2147483647))) 0
  .nil)))
  (.op (some 87) (.pick (.t 83) (.c (.bool true)) (.t 86)) 0
  .nil)))))))))))) false)
 (.cond (.t 87)
 (.seq (.region (Nodes.flat none (.op (some 2) (.move (.c (.bool false))) 0
  .nil)) false)
 .ret)
 .skip))
 (.seq (.seq (.region (Nodes.flat none (.op (some 4) (.move (.c (.int .i64 0))) 0
  .nil)) false)
 (.block 0 (.loop (.seq (.seq (.region (Nodes.flat none (.op (some 88) (.move (.t 4)) 0
  (.op (some 89) (.bin .lss (.t 88) (.c (.int .i64 3))) 0
  .nil))) false)
 (.cond (.t 89)
 .skip
 (.exit 0)))
 (.seq (.block 1 (.seq (.region (Nodes.flat none (.op (some 92) (.move (.t 4)) 0
  (.op (some 93) (.fieldAddr 7 (.t 1)) 0
  (.op (some 94) (.load none (.t 93)) 2
  (.op (some 95) (.bin .lss (.t 92) (.t 94)) 7
  (.op (some 96) (.move (.t 4)) 0
  (.op (some 97) (.fieldAddr 8 (.t 1)) 0
  (.op (some 98) (.idxAddrA 3 1 (.t 97) (.t 96)) 48
  (.op (some 99) (.load none (.t 98)) 112
  (.op (some 100) (.call 44 [(.t 95), (.t 99)]) 255
  (.op (some 101) (.un .not (.t 100)) 511
  .nil))))))))))) true)
 (.cond (.t 101)
 (.seq (.region (Nodes.flat none (.op (some 2) (.move (.c (.bool false))) 0
  .nil)) false)
 .ret)
 .skip)))
 (.region (Nodes.flat none (.op (some 90) (.move (.t 4)) 0
  (.op (some 91) (.bin .add (.t 90) (.c (.int .i64 1))) 0
  (.op (some 4) (.move (.t 91)) 0
  .nil)))) false))))))
 (.seq (.region (Nodes.flat none (.op (some 2) (.move (.c (.bool true))) 0
  .nil)) false)
 .ret))))))),
 [.tmp 2]⟩
theorem b17 : fnOf Go.Proofs.Tryd.prog (owOf []) 17 = some c17 := by kernel_rfl

/-- bywash/bywashref05.Def -/
def c18 : RFn := ⟨(.seq (.region (Nodes.flat none (.op (some 1) (.box (.t 0)) 0
  (.op (some 2) (.move (.c (.int .i64 0))) 0
  .nil))) false)
 (.seq (.seq (.region (Nodes.flat none (.op (some 3) (.load (some 11) (.t 1)) 0
  (.op (some 4) (.call 17 [(.t 3)]) 0
  (.op (some 5) (.un .not (.t 4)) 0
  (.op (some 6) (.move (.t 5)) 0
  (.grd 6 false
  (.op (some 7) (.fieldAddr 1 (.t 1)) 0
  (.op (some 8) (.load none (.t 7)) 0
  (.op (some 9) (.call 45 [(.t 8)]) 0
  (.op (some 10) (.un .not (.t 9)) 0
  .nil))))
  (.op (some 11) (.pick (.t 6) (.c (.bool true)) (.t 10)) 0
  .nil))))))) false)
 (.cond (.t 11)
 (.seq (.region (Nodes.flat none (.op (some 2) (.move (.c (.int .i64 (-1)))) 0
  .nil)) false)
 .ret)
 .skip))
 (.seq (.region (Nodes.flat none (.op (some 12) (.fieldAddr 2 (.t 1)) 0
  (.op (some 13) (.load none (.t 12)) 0
  (.op (some 2) (.move (.t 13)) 0
  .nil)))) false)
 .ret))),
 [.tmp 2]⟩
theorem b18 : fnOf Go.Proofs.Tryd.prog (owOf []) 18 = some c18 := by kernel_rfl

/-- bywash/bywashref05.Name -/
def c24 : RFn := ⟨(.seq (.region (Nodes.flat none (.op (some 2) (.move (.c (.str ⟨#[]⟩))) 0
  .nil)) false)
 (.seq (.region (Nodes.flat none (.op (some 4) (.bslice true 1 10 (.str ⟨#[]⟩) [(0, (.c (.str ⟨#[99, 111, 110, 115, 116]⟩))), (1, (.c (.str ⟨#[99, 111, 112, 121]⟩))), (2, (.c (.str ⟨#[110, 101, 103]⟩))), (3, (.c (.str ⟨#[97, 100, 100]⟩))), (4, (.c (.str ⟨#[115, 117, 98]⟩))), (5, (.c (.str ⟨#[109, 117, 108]⟩))), (6, (.c (.str ⟨#[105, 110, 112, 117, 116]⟩))), (7, (.c (.str ⟨#[99, 97, 108, 108]⟩))), (8, (.c (.str ⟨#[117, 115, 101]⟩))), (9, (.c (.str ⟨#[114, 101, 116]⟩)))]) 0
  (.op (some 3) (.move (.t 4)) 0
  .nil))) false)
 (.seq (.seq (.region (Nodes.flat none (.op (some 5) (.move (.t 0)) 0
  (.op (some 6) (.bin .lss (.t 5) (.c (.int .i64 0))) 0
  (.op (some 7) (.move (.t 6)) 0
  (.grd 7 false
  (.op (some 8) (.move (.t 0)) 0
  (.op (some 9) (.bin .gtr (.t 8) (.c (.int .i64 9))) 0
  .nil))
  (.op (some 10) (.pick (.t 7) (.c (.bool true)) (.t 9)) 0
  .nil)))))) false)
 (.cond (.t 10)
 (.seq (.region (Nodes.flat none (.op (some 2) (.move (.c (.str ⟨#[]⟩))) 0
  .nil)) false)
 .ret)
 .skip))
 (.seq (.region (Nodes.flat none (.op (some 11) (.move (.t 3)) 0
  (.op (some 12) (.move (.t 0)) 0
  (.op (some 13) (.idxAddr 1 (.t 11) (.t 12)) 0
  (.op (some 14) (.load none (.t 13)) 0
  (.op (some 2) (.move (.t 14)) 0
  .nil)))))) false)
 .ret)))),
 [.tmp 2]⟩
theorem b24 : fnOf Go.Proofs.Tryd.prog (owOf []) 24 = some c24 := by kernel_rfl

/-- bywash/bywashref05.none -/
def c44 : RFn := ⟨(.seq (.region (Nodes.flat none (.op (some 4) (.move (.c (.bool false))) 0
  .nil)) false)
 (.seq (.region (Nodes.flat none (.op (some 5) (.move (.t 0)) 0
  (.op (some 6) (.move (.t 5)) 0
  (.grd 6 true
  (.op (some 7) (.move (.t 1)) 0
  (.op (some 8) (.bin .geq (.t 7) (.c (.int .i64 0))) 0
  .nil))
  (.op (some 9) (.pick (.t 6) (.t 8) (.c (.bool false))) 0
  (.op (some 10) (.move (.t 9)) 0
  (.grd 10 false
  (.op (some 11) (.move (.t 1)) 0
  (.op (some 12) (.bin .eql (.t 11) (.c (.int .i64 0))) 0
  .nil))
  (.op (some 13) (.pick (.t 10) (.c (.bool true)) (.t 12)) 0
  (.op (some 4) (.move (.t 13)) 0
  .nil))))))))) false)
 .ret)),
 [.tmp 4]⟩
theorem b44 : fnOf Go.Proofs.Tryd.prog (owOf []) 44 = some c44 := by kernel_rfl

/-- bywash/bywashref05.hasDst -/
def c45 : RFn := ⟨(.seq (.region (Nodes.flat none (.op (some 2) (.move (.c (.bool false))) 0
  .nil)) false)
 (.seq (.region (Nodes.flat none (.op (some 3) (.move (.t 0)) 0
  (.op (some 4) (.bin .geq (.t 3) (.c (.int .i64 0))) 0
  (.op (some 5) (.move (.t 4)) 0
  (.grd 5 true
  (.op (some 6) (.move (.t 0)) 0
  (.op (some 7) (.bin .leq (.t 6) (.c (.int .i64 7))) 0
  .nil))
  (.op (some 8) (.pick (.t 5) (.t 7) (.c (.bool false))) 0
  (.op (some 2) (.move (.t 8)) 0
  .nil))))))) false)
 .ret)),
 [.tmp 2]⟩
theorem b45 : fnOf Go.Proofs.Tryd.prog (owOf []) 45 = some c45 := by kernel_rfl

/-- bywash/bywashref05.hasA -/
def c46 : RFn := ⟨(.seq (.region (Nodes.flat none (.op (some 2) (.move (.c (.bool false))) 0
  .nil)) false)
 (.seq (.region (Nodes.flat none (.op (some 3) (.move (.t 0)) 0
  (.op (some 4) (.bin .geq (.t 3) (.c (.int .i64 1))) 0
  (.op (some 5) (.move (.t 4)) 0
  (.grd 5 true
  (.op (some 6) (.move (.t 0)) 0
  (.op (some 7) (.bin .leq (.t 6) (.c (.int .i64 5))) 0
  .nil))
  (.op (some 8) (.pick (.t 5) (.t 7) (.c (.bool false))) 0
  (.op (some 9) (.move (.t 8)) 0
  (.grd 9 false
  (.op (some 10) (.move (.t 0)) 0
  (.op (some 11) (.bin .eql (.t 10) (.c (.int .i64 8))) 0
  .nil))
  (.op (some 12) (.pick (.t 9) (.c (.bool true)) (.t 11)) 0
  (.op (some 13) (.move (.t 12)) 0
  (.grd 13 false
  (.op (some 14) (.move (.t 0)) 0
  (.op (some 15) (.bin .eql (.t 14) (.c (.int .i64 9))) 0
  .nil))
  (.op (some 16) (.pick (.t 13) (.c (.bool true)) (.t 15)) 0
  (.op (some 2) (.move (.t 16)) 0
  .nil))))))))))))) false)
 .ret)),
 [.tmp 2]⟩
theorem b46 : fnOf Go.Proofs.Tryd.prog (owOf []) 46 = some c46 := by kernel_rfl

/-- bywash/bywashref05.hasB -/
def c47 : RFn := ⟨(.seq (.region (Nodes.flat none (.op (some 2) (.move (.c (.bool false))) 0
  .nil)) false)
 (.seq (.region (Nodes.flat none (.op (some 3) (.move (.t 0)) 0
  (.op (some 4) (.bin .geq (.t 3) (.c (.int .i64 3))) 0
  (.op (some 5) (.move (.t 4)) 0
  (.grd 5 true
  (.op (some 6) (.move (.t 0)) 0
  (.op (some 7) (.bin .leq (.t 6) (.c (.int .i64 5))) 0
  .nil))
  (.op (some 8) (.pick (.t 5) (.t 7) (.c (.bool false))) 0
  (.op (some 2) (.move (.t 8)) 0
  .nil))))))) false)
 .ret)),
 [.tmp 2]⟩
theorem b47 : fnOf Go.Proofs.Tryd.prog (owOf []) 47 = some c47 := by kernel_rfl

/-- bywash/bywashref05.add -/
def c48 : RFn := ⟨(.seq (.region (Nodes.flat none (.op (some 4) (.move (.c (.lit []))) 0
  .nil)) false)
 (.seq (.seq (.region (Nodes.flat none (.op (some 5) (.move (.c (.int .i64 0))) 0
  .nil)) false)
 (.block 0 (.loop (.seq (.seq (.region (Nodes.flat none (.op (some 6) (.move (.t 5)) 0
  (.op (some 7) (.move (.t 0)) 0
  (.op (some 8) (.len false (.t 7)) 0
  (.op (some 9) (.bin .lss (.t 6) (.t 8)) 0
  .nil))))) false)
 (.cond (.t 9)
 .skip
 (.exit 0)))
 (.seq (.block 1 (.seq (.region (Nodes.flat none (.op (some 12) (.move (.t 0)) 0
  (.op (some 13) (.move (.t 5)) 0
  (.op (some 14) (.idxAddr 1 (.t 12) (.t 13)) 0
  (.op (some 15) (.load none (.t 14)) 0
  (.op (some 16) (.move (.t 1)) 0
  (.op (some 17) (.bin .eql (.t 15) (.t 16)) 0
  .nil))))))) false)
 (.cond (.t 17)
 (.seq (.region (Nodes.flat none (.op (some 18) (.move (.t 0)) 0
  (.op (some 4) (.move (.t 18)) 0
  .nil))) false)
 .ret)
 .skip)))
 (.region (Nodes.flat none (.op (some 10) (.move (.t 5)) 0
  (.op (some 11) (.bin .add (.t 10) (.c (.int .i64 1))) 0
  (.op (some 5) (.move (.t 11)) 0
  .nil)))) false))))))
 (.seq (.region (Nodes.flat none (.op (some 19) (.move (.t 0)) 0
  (.op (some 20) (.move (.t 1)) 0
  (.op (some 21) (.bslice false 1 1 (.int .i64 0) [(0, (.t 20))]) 0
  (.op (some 22) (.append 1 (.int .i64 0) (.t 19) (.t 21)) 0
  (.op (some 4) (.move (.t 22)) 0
  .nil)))))) false)
 .ret))),
 [.tmp 4]⟩
theorem b48 : fnOf Go.Proofs.Tryd.prog (owOf [(6, 2)]) 48 = some c48 := by kernel_rfl

end Go.Vm

end

section
/- Walks. -/
set_option maxRecDepth 100000
set_option linter.unusedSimpArgs false
set_option linter.unusedVariables false
namespace Go.Vm
open Go

set_option maxHeartbeats 4000000
section
variable {gl : Nat → Option PV}
theorem p_r5_hasDst (k : Int) : Pure Go.Proofs.Tryd.prog gl 45 [.int .i64 k] (.bool (hD k)) := by
  refine Pure.fn hmix b45 ?_
  repeat' first
    | with_reducible refine tr_seq ?_
    | ((with_reducible refine tr_region_f ?_ ?_); kernel_rfl)
    | with_reducible refine n_nil ?_
    | exact ⟨rfl, rfl⟩
    | with_reducible refine seqQ_normal ?_
    | with_reducible refine seqQ_ret ?_
    | with_reducible refine blkQ_ret ?_
    | with_reducible refine tr_ret ?_
    | ((with_reducible apply n_and); rfl; rfl; intro h)
    | ((with_reducible apply n_or); rfl; rfl; intro h)
    | ((with_reducible apply n_val); rfl; rfl)
    | ((with_reducible apply fnQ_told_ret); rfl)
    | ((with_reducible apply fnQ_ret_soft); rfl; rfl)
  rfl
theorem p_r5_hasA (k : Int) : Pure Go.Proofs.Tryd.prog gl 46 [.int .i64 k] (.bool (hA k)) := by
  refine Pure.fn hmix b46 ?_
  repeat' first
    | with_reducible refine tr_seq ?_
    | ((with_reducible refine tr_region_f ?_ ?_); kernel_rfl)
    | with_reducible refine n_nil ?_
    | exact ⟨rfl, rfl⟩
    | with_reducible refine seqQ_normal ?_
    | with_reducible refine seqQ_ret ?_
    | with_reducible refine blkQ_ret ?_
    | with_reducible refine tr_ret ?_
    | ((with_reducible apply n_and); rfl; rfl; intro h)
    | ((with_reducible apply n_or); rfl; rfl; intro h)
    | ((with_reducible apply n_val); rfl; rfl)
    | ((with_reducible apply fnQ_told_ret); rfl)
    | ((with_reducible apply fnQ_ret_soft); rfl; rfl)
  rfl
theorem p_r5_hasB (k : Int) : Pure Go.Proofs.Tryd.prog gl 47 [.int .i64 k] (.bool (hB k)) := by
  refine Pure.fn hmix b47 ?_
  repeat' first
    | with_reducible refine tr_seq ?_
    | ((with_reducible refine tr_region_f ?_ ?_); kernel_rfl)
    | with_reducible refine n_nil ?_
    | exact ⟨rfl, rfl⟩
    | with_reducible refine seqQ_normal ?_
    | with_reducible refine seqQ_ret ?_
    | with_reducible refine blkQ_ret ?_
    | with_reducible refine tr_ret ?_
    | ((with_reducible apply n_and); rfl; rfl; intro h)
    | ((with_reducible apply n_or); rfl; rfl; intro h)
    | ((with_reducible apply n_val); rfl; rfl)
    | ((with_reducible apply fnQ_told_ret); rfl)
    | ((with_reducible apply fnQ_ret_soft); rfl; rfl)
  rfl
theorem p_r5_none (b : Bool) (n : Int) : Pure Go.Proofs.Tryd.prog gl 44 [.bool b, .int .i64 n] (.bool (none5 b n)) := by
  refine Pure.fn hmix b44 ?_
  repeat' first
    | with_reducible refine tr_seq ?_
    | ((with_reducible refine tr_region_f ?_ ?_); kernel_rfl)
    | with_reducible refine n_nil ?_
    | exact ⟨rfl, rfl⟩
    | with_reducible refine seqQ_normal ?_
    | with_reducible refine seqQ_ret ?_
    | with_reducible refine blkQ_ret ?_
    | with_reducible refine tr_ret ?_
    | ((with_reducible apply n_and); rfl; rfl; intro h)
    | ((with_reducible apply n_or); rfl; rfl; intro h)
    | ((with_reducible apply n_val); rfl; rfl)
    | ((with_reducible apply fnQ_told_ret); rfl)
    | ((with_reducible apply fnQ_ret_soft); rfl; rfl)
  rfl
theorem p_r5_Name (k : Int) : Pure Go.Proofs.Tryd.prog gl 24 [.int .i64 k] (.str (nm k)) := by
  rcases kind_cases k with rfl | rfl | rfl | rfl | rfl | rfl | rfl | rfl | rfl | rfl | h
  case inr.inr.inr.inr.inr.inr.inr.inr.inr.inr =>
    refine Pure.fn hmix b24 ?_
    have hc : (decide (k < 0) || decide (k > 9)) = true := by simp; omega
    repeat' first
      | with_reducible refine tr_seq ?_
      | ((with_reducible refine tr_region_f ?_ ?_); kernel_rfl)
      | with_reducible refine n_nil ?_
      | exact ⟨rfl, rfl⟩
      | with_reducible refine seqQ_normal ?_
      | with_reducible refine seqQ_ret ?_
      | with_reducible refine blkQ_ret ?_
      | with_reducible refine tr_skip ?_
      | with_reducible refine tr_ret ?_
      | ((with_reducible apply tr_cond_e); rfl)
      | with_reducible refine condT_t ?_
      | with_reducible refine condT_f ?_
      | ((with_reducible apply n_and); rfl; rfl; intro h)
      | ((with_reducible apply n_or); rfl; rfl; intro h)
      | ((with_reducible refine condT_T ?_ ?_); exact hc)
      | ((with_reducible apply n_val); rfl; rfl)
      | ((with_reducible apply n_row); rfl; (first | (simp only [hn0, hn1, hn2, hn3, hn4, hn5, List.length_cons, List.length_nil, Nat.reduceAdd, Nat.zero_add]; done) | (simp only [hn0, hn1, hn2, hn3, hn4, hn5, List.length_cons, List.length_nil, Nat.reduceAdd, Nat.zero_add]; rfl) | rfl); rfl)
      | (with_reducible refine condT_split (fun h => ?_) (fun h => ?_))
      | ((with_reducible apply fnQ_told_ret); rfl)
      | ((with_reducible apply fnQ_ret_soft); rfl; rfl)
    rw [nm, if_neg (by omega)]
    rfl
  all_goals
    refine Pure.fn hmix b24 ?_
    repeat' first
      | with_reducible refine tr_seq ?_
      | ((with_reducible refine tr_region_f ?_ ?_); kernel_rfl)
      | with_reducible refine n_nil ?_
      | exact ⟨rfl, rfl⟩
      | with_reducible refine seqQ_normal ?_
      | with_reducible refine seqQ_ret ?_
      | with_reducible refine blkQ_ret ?_
      | with_reducible refine tr_skip ?_
      | with_reducible refine tr_ret ?_
      | ((with_reducible apply tr_cond_e); rfl)
      | with_reducible refine condT_t ?_
      | with_reducible refine condT_f ?_
      | ((with_reducible refine condT_T ?_ ?_); decide +kernel)
      | ((with_reducible refine condT_F ?_ ?_); decide +kernel)
      | ((with_reducible apply n_andF); rfl; rfl; decide +kernel)
      | ((with_reducible apply n_orT); rfl; rfl; decide +kernel)
      | ((with_reducible apply n_and); rfl; rfl; intro h)
      | ((with_reducible apply n_or); rfl; rfl; intro h)
      | with_reducible refine unrQ_normal ?_
      | with_reducible refine unrQ_exit ?_
      | with_reducible refine unrQ_ret ?_
      | ((with_reducible apply n_idx_own); rfl; rfl; rfl; decide)
      | ((with_reducible apply n_load_at); rfl; rfl; rfl; rfl)
      | ((with_reducible apply n_val); rfl; rfl)
      | ((with_reducible apply n_row); rfl; (first | (simp only [hn0, hn1, hn2, hn3, hn4, hn5, List.length_cons, List.length_nil, Nat.reduceAdd, Nat.zero_add]; done) | (simp only [hn0, hn1, hn2, hn3, hn4, hn5, List.length_cons, List.length_nil, Nat.reduceAdd, Nat.zero_add]; rfl) | rfl); rfl)
      | (with_reducible refine condT_split (fun h => ?_) (fun h => ?_))
      | ((with_reducible apply fnQ_told_ret); rfl)
      | ((with_reducible apply fnQ_ret_soft); rfl; rfl)
    rfl
theorem p_r5_Form (i : In) : Pure Go.Proofs.Tryd.prog gl 17 [pI i] (.bool (form i)) := by
  refine Pure.fn hmix b17 ?_
  repeat' first
    | with_reducible refine tr_seq ?_
    | ((with_reducible refine tr_region_f ?_ ?_); kernel_rfl)
    | ((with_reducible refine tr_region_t ?_ ?_ ?_); kernel_rfl; kernel_rfl)
    | with_reducible refine n_nil ?_
    | exact ⟨rfl, rfl⟩
    | with_reducible refine seqQ_normal ?_
    | with_reducible refine seqQ_exit ?_
    | with_reducible refine seqQ_ret ?_
    | with_reducible refine blkQ_normal ?_
    | with_reducible refine blkQ_exit ?_
    | with_reducible refine blkQ_ret ?_
    | ((with_reducible refine blkQ_exit_ne ?_ ?_); rfl)
    | with_reducible refine tr_block ?_
    | with_reducible refine tr_skip ?_
    | with_reducible refine tr_exit ?_
    | with_reducible refine tr_ret ?_
    | ((with_reducible apply tr_cond_e); rfl)
    | with_reducible refine condT_t ?_
    | with_reducible refine condT_f ?_
    | ((with_reducible refine condT_T ?_ ?_); decide +kernel)
    | ((with_reducible refine condT_F ?_ ?_); decide +kernel)
    | ((with_reducible apply n_andF); rfl; rfl; decide +kernel)
    | ((with_reducible apply n_orT); rfl; rfl; decide +kernel)
    | ((with_reducible apply n_and); rfl; rfl; intro h)
    | ((with_reducible apply n_or); rfl; rfl; intro h)
    | with_reducible refine loopV_exit ?_
    | with_reducible refine loopV_ret ?_
    | with_reducible refine unrQ_normal ?_
    | with_reducible refine unrQ_exit ?_
    | with_reducible refine unrQ_ret ?_
    | refine tr_unroll 4 ?_
    | ((with_reducible apply n_val); rfl; rfl)
    | ((with_reducible apply n_new); rfl; (first | (simp only [hn0, hn1, hn2, hn3, hn4, hn5, List.length_cons, List.length_nil, Nat.reduceAdd, Nat.zero_add]; done) | (simp only [hn0, hn1, hn2, hn3, hn4, hn5, List.length_cons, List.length_nil, Nat.reduceAdd, Nat.zero_add]; rfl) | rfl); rfl)
    | ((with_reducible apply n_call (f := 45)); rfl; rfl; exact p_r5_hasDst ..)
    | ((with_reducible apply n_call (f := 46)); rfl; rfl; exact p_r5_hasA ..)
    | ((with_reducible apply n_call (f := 47)); rfl; rfl; exact p_r5_hasB ..)
    | ((with_reducible apply n_call (f := 44)); rfl; rfl; exact p_r5_none ..)
    | (with_reducible refine condT_split (fun h => ?_) (fun h => ?_))
    | ((with_reducible apply fnQ_told_ret); rfl)
    | ((with_reducible apply fnQ_ret_soft); rfl; rfl)
  all_goals (try simp only [w64_1, w64_2] at *)
  · refine congrArg PV.bool (form_no fun hh => ?_).symm
    simp only [Bool.or_eq_true, decide_eq_true_eq] at h
    omega
  · refine congrArg PV.bool (form_no fun hh => ?_).symm
    obtain ⟨_, ⟨h1, h2, h3, h4, h5⟩, _⟩ := hh
    rw [h1, h2, h3, h4, h5] at h
    cases h
  · refine congrArg PV.bool (form_no fun hh => ?_).symm
    simp only [Bool.or_eq_true, Bool.and_eq_true, bne_iff_ne, ne_eq, decide_eq_true_eq] at h
    omega
  · refine congrArg PV.bool (form_no fun hh => ?_).symm
    rw [hh.2.2.2.1] at h
    cases h
  · refine congrArg PV.bool (form_no fun hh => ?_).symm
    rw [hh.2.2.2.2.1] at h
    cases h
  · refine congrArg PV.bool (form_no fun hh => ?_).symm
    rw [hh.2.2.2.2.2] at h
    cases h
  · refine congrArg PV.bool ((form_iff i).2 ?_).symm
    simp only [Bool.or_eq_false_iff, Bool.and_eq_false_iff, bne_eq_false_iff_eq, Bool.not_eq_false', decide_eq_false_iff_not] at *
    refine ⟨?_, ?_, ?_, ?_⟩
    · omega
    · simp_all
    · omega
    · simp_all
theorem p_r5_Def (i : In) : Pure Go.Proofs.Tryd.prog gl 18 [pI i] (.int .i64 (defI i)) := by
  refine Pure.fn hmix b18 ?_
  repeat' first
    | with_reducible refine tr_seq ?_
    | ((with_reducible refine tr_region_f ?_ ?_); kernel_rfl)
    | with_reducible refine n_nil ?_
    | exact ⟨rfl, rfl⟩
    | with_reducible refine seqQ_normal ?_
    | with_reducible refine seqQ_ret ?_
    | with_reducible refine blkQ_ret ?_
    | with_reducible refine tr_skip ?_
    | with_reducible refine tr_ret ?_
    | ((with_reducible apply tr_cond_e); rfl)
    | with_reducible refine condT_t ?_
    | with_reducible refine condT_f ?_
    | ((with_reducible apply n_and); rfl; rfl; intro h)
    | ((with_reducible apply n_or); rfl; rfl; intro h)
    | ((with_reducible apply n_val); rfl; rfl)
    | ((with_reducible apply n_new); rfl; (first | (simp only [hn0, hn1, hn2, hn3, hn4, hn5, List.length_cons, List.length_nil, Nat.reduceAdd, Nat.zero_add]; done) | (simp only [hn0, hn1, hn2, hn3, hn4, hn5, List.length_cons, List.length_nil, Nat.reduceAdd, Nat.zero_add]; rfl) | rfl); rfl)
    | ((with_reducible apply n_call (f := 17)); rfl; rfl; exact p_r5_Form ..)
    | ((with_reducible apply n_call (f := 45)); rfl; rfl; exact p_r5_hasDst ..)
    | (with_reducible refine condT_split (fun h => ?_) (fun h => ?_))
    | ((with_reducible apply fnQ_told_ret); rfl)
    | ((with_reducible apply fnQ_ret_soft); rfl; rfl)
  · refine congrArg _ ?_
    rw [defI, if_neg]
    cases h1 : form i <;> cases h2 : hD i.kind <;> simp_all
  · refine congrArg _ ?_
    rw [defI, if_pos]
    cases h1 : form i <;> cases h2 : hD i.kind <;> simp_all
/-- The count of growths. -/
def gA (g : Nat) (l : List Int) (v : Int) : Nat := if l.contains v then g else g + 1
theorem w_ctn {l : List Int} {v : Int} {k : Nat} (h : k < l.length) (e : l.getD k 0 = v) : l.contains v = true := by
  rw [List.contains_iff_mem, ← e, List.getD_eq_getElem?_getD, List.getElem?_eq_getElem h, Option.getD_some]
  exact List.getElem_mem h
theorem w_nct {l : List Int} {v : Int} (h : ∀ j, j < l.length → l.getD j 0 ≠ v) : l.contains v = false := by
  rw [Bool.eq_false_iff]
  intro hc
  rw [List.contains_iff_mem] at hc
  obtain ⟨j, hj, e⟩ := List.mem_iff_getElem.1 hc
  apply h j hj
  rw [List.getD_eq_getElem?_getD, List.getElem?_eq_getElem hj, Option.getD_some, e]
theorem h_add0 (v : Int) (i0 : In) : HSpec Go.Proofs.Tryd.prog gl 48 [.lit [], .int .i64 v] (Hp.ofL [some ⟨0, 11, [pI i0]⟩]) (fun r G => r = .ref 1 0 0 1 ∧ G = Hp.ofL [some ⟨0, 11, [pI i0]⟩, some ⟨0, 1, [v].map pint⟩]) := by
  refine HSpec.fnL (Nat.le_of_ble_eq_true rfl) hmix b48 ?_
  change Tr _ _ 1 _ _ _ _
  repeat' first
    | with_reducible refine tr_seq ?_
    | ((with_reducible refine tr_region_f ?_ ?_); kernel_rfl)
    | with_reducible refine n_nil ?_
    | with_reducible refine seqQ_normal ?_
    | with_reducible refine seqQ_exit ?_
    | with_reducible refine seqQ_ret ?_
    | with_reducible refine blkQ_normal ?_
    | with_reducible refine blkQ_exit ?_
    | with_reducible refine blkQ_ret ?_
    | ((with_reducible refine blkQ_exit_ne ?_ ?_); rfl)
    | with_reducible refine tr_block ?_
    | with_reducible refine tr_skip ?_
    | with_reducible refine tr_exit ?_
    | with_reducible refine tr_ret ?_
    | ((with_reducible apply tr_cond_e); rfl)
    | with_reducible refine condT_t ?_
    | with_reducible refine condT_f ?_
    | ((with_reducible refine condT_T ?_ ?_); exact rfl)
    | ((with_reducible refine condT_F ?_ ?_); exact rfl)
    | ((with_reducible refine condT_T ?_ ?_); decide +kernel)
    | ((with_reducible refine condT_F ?_ ?_); decide +kernel)
    | ((with_reducible apply n_andF); rfl; rfl; decide +kernel)
    | ((with_reducible apply n_orT); rfl; rfl; decide +kernel)
    | with_reducible refine loopV_exit ?_
    | with_reducible refine loopV_ret ?_
    | with_reducible refine unrQ_normal ?_
    | with_reducible refine unrQ_exit ?_
    | with_reducible refine unrQ_ret ?_
    | refine tr_unroll 1 ?_
    | ((with_reducible apply n_val); rfl; rfl)
    | ((with_reducible apply n_append); rfl; rfl; rfl; rfl; rfl; rfl; (first | decide | (simp only [List.length_append, List.length_cons, List.length_nil, List.length_set, List.length_replicate, ints_length] at *; omega)); rfl)
    | ((with_reducible apply n_append_lit); rfl; rfl; rfl; rfl; rfl; (first | decide | (simp only [List.length_append, List.length_cons, List.length_nil, List.length_set, List.length_replicate, ints_length] at *; omega)); (first | (simp only [hn0, hn1, hn2, hn3, hn4, hn5, List.length_cons, List.length_nil, Nat.reduceAdd, Nat.zero_add]; done) | (simp only [hn0, hn1, hn2, hn3, hn4, hn5, List.length_cons, List.length_nil, Nat.reduceAdd, Nat.zero_add]; rfl) | rfl); rfl)
    | (with_reducible refine condT_split (fun h => ?_) (fun h => ?_))
    | ((with_reducible apply fnQ_told_ret); rfl)
    | ((with_reducible apply fnQ_ret_soft); rfl; rfl)
    | ((with_reducible apply fnQ_ret_row); rfl; rfl; rfl)
  · rfl
  · exact ⟨⟨_, rfl, rfl, rfl, rfl⟩, ⟨_, rfl, rfl, rfl, rfl⟩, trivial⟩
theorem h_add1 (l : List Int) (hl : l.length ≤ 1000) (g : Nat) (v : Int) (i0 : In) : HSpec Go.Proofs.Tryd.prog gl 48 [.ref 1 g 0 l.length, .int .i64 v] (Hp.ofL [some ⟨0, 11, [pI i0]⟩, some ⟨g, 1, l.map pint⟩]) (fun r G => r = .ref 1 (gA g l v) 0 (dd l v).length ∧ G = Hp.ofL [some ⟨0, 11, [pI i0]⟩, some ⟨gA g l v, 1, (dd l v).map pint⟩]) := by
  refine HSpec.fnL (Nat.le_refl _) hmix b48 ?_
  change Tr _ _ 2 _ _ _ _
  repeat' first
    | with_reducible refine tr_seq ?_
    | ((with_reducible refine tr_region_f ?_ ?_); kernel_rfl)
    | with_reducible refine n_nil ?_
    | with_reducible refine seqQ_normal ?_
    | with_reducible refine seqQ_exit ?_
    | with_reducible refine seqQ_ret ?_
    | with_reducible refine blkQ_normal ?_
    | with_reducible refine blkQ_exit ?_
    | with_reducible refine blkQ_ret ?_
    | ((with_reducible refine blkQ_exit_ne ?_ ?_); rfl)
    | with_reducible refine tr_block ?_
    | with_reducible refine tr_skip ?_
    | with_reducible refine tr_exit ?_
    | with_reducible refine tr_ret ?_
    | ((with_reducible apply tr_cond_e); rfl)
    | with_reducible refine condT_t ?_
    | with_reducible refine condT_f ?_
    | with_reducible refine loopV_exit ?_
    | with_reducible refine loopV_ret ?_
    | ((with_reducible apply n_idx_own); rfl; rfl; rfl; (first | omega | decide | (simp only [decide_eq_true_eq, decide_eq_false_iff_not, Bool.or_eq_false_iff, Bool.not_eq_true', Bool.not_eq_false', Bool.not_true, Bool.not_false, ints_length, List.length_map, tab_length] at *; omega)))
    | ((with_reducible apply n_load_vals (f := pint) (0 : Int)); rfl; rfl; rfl; (first | omega | decide | (simp only [decide_eq_true_eq, decide_eq_false_iff_not, Bool.or_eq_false_iff, Bool.not_eq_true', Bool.not_eq_false', Bool.not_true, Bool.not_false, ints_length, List.length_map, tab_length] at *; omega)))
    | ((with_reducible apply n_append_valsL (f := pint) v); rfl; rfl; rfl; rfl; rfl; rfl; (omega); rfl)
    | (first | ((with_reducible apply n_bin); rfl; rfl; focus ((with_reducible (first | apply b_add | apply b_sub)) <;> first | omega | decide | (simp only [decide_eq_true_eq, decide_eq_false_iff_not, Bool.or_eq_false_iff, Bool.not_eq_true', Bool.not_eq_false', Bool.not_true, Bool.not_false, ints_length, List.length_map, tab_length] at *; omega))) | ((with_reducible apply n_max); rfl; rfl) | ((with_reducible apply n_min); rfl; rfl))
    | (refine tr_loop_v (α := Nat) 2 (fun | k => [(5, some (.int .i64 (k : Int))), (6, none), (7, none), (8, none), (9, none), (12, none), (13, none), (14, none), (15, none), (16, none), (17, none), (18, none), (4, none), (10, none), (11, none)]) (fun | k => [some ⟨0, 11, [pI i0]⟩, some ⟨g, 1, l.map pint⟩]) (fun | k => k ≤ l.length ∧ ∀ j, j < k → l.getD j 0 ≠ v) (fun | k => l.length - k) (0) (ks := [5, 6, 7, 8, 9, 12, 13, 14, 15, 16, 17, 18, 4, 10, 11]) (fun _ => rfl) (fun _ => rfl) rfl (by omega) ?_ ⟨⟨_, rfl, rfl⟩, trivial⟩ ⟨⟨_, rfl, rfl, rfl, (by first | exact fzP_vals (fun _ => rfl) rfl |  rfl | exact fzP_pure (ints_pure _) | exact fzP_pure (u64s_pure _) | exact fzP_pure (by assumption) | exact fzP_pure (by first | (simp [pureE, pure1, ints]; done) | (simp_all [pe_int, pe_bool, pe_str, pe_sl, pe_agg, p1_int, p1_bool, p1_str, p1_sl]; done)))⟩, ⟨_, rfl, rfl, rfl, (by first | exact fzP_vals (fun _ => rfl) rfl |  rfl | exact fzP_pure (ints_pure _) | exact fzP_pure (u64s_pure _) | exact fzP_pure (by assumption) | exact fzP_pure (by first | (simp [pureE, pure1, ints]; done) | (simp_all [pe_int, pe_bool, pe_str, pe_sl, pe_agg, p1_int, p1_bool, p1_str, p1_sl]; done)))⟩, trivial⟩ ?_; rotate_left; rintro k hx; try dsimp only at hx)
    | ((first | (refine loopV_normal (k + 1) ?_ ⟨⟨_, rfl, rfl⟩, trivial⟩ ⟨⟨_, rfl, rfl, rfl, (by first | exact fzP_vals (fun _ => rfl) rfl |  rfl | exact fzP_pure (ints_pure _) | exact fzP_pure (u64s_pure _) | exact fzP_pure (by assumption) | exact fzP_pure (by first | (simp [pureE, pure1, ints]; done) | (simp_all [pe_int, pe_bool, pe_str, pe_sl, pe_agg, p1_int, p1_bool, p1_str, p1_sl]; done)))⟩, ⟨_, rfl, rfl, rfl, (by first | exact fzP_vals (fun _ => rfl) rfl |  rfl | exact fzP_pure (ints_pure _) | exact fzP_pure (u64s_pure _) | exact fzP_pure (by assumption) | exact fzP_pure (by first | (simp [pureE, pure1, ints]; done) | (simp_all [pe_int, pe_bool, pe_str, pe_sl, pe_agg, p1_int, p1_bool, p1_str, p1_sl]; done)))⟩, trivial⟩ ?_ ?_)); repeat (first | exact only_refl | refine only_put rfl ?_ | refine only_less rfl ?_ | refine only_ov rfl ?_))
    | ((with_reducible apply n_val); rfl; rfl)
    | ((with_reducible apply n_append); rfl; rfl; rfl; rfl; rfl; rfl; (first | decide | (simp only [List.length_append, List.length_cons, List.length_nil, List.length_set, List.length_replicate, ints_length] at *; omega)); rfl)
    | ((with_reducible apply n_append_lit); rfl; rfl; rfl; rfl; rfl; (first | decide | (simp only [List.length_append, List.length_cons, List.length_nil, List.length_set, List.length_replicate, ints_length] at *; omega)); (first | (simp only [hn0, hn1, hn2, hn3, hn4, hn5, List.length_cons, List.length_nil, Nat.reduceAdd, Nat.zero_add]; done) | (simp only [hn0, hn1, hn2, hn3, hn4, hn5, List.length_cons, List.length_nil, Nat.reduceAdd, Nat.zero_add]; rfl) | rfl); rfl)
    | (with_reducible refine condT_split (fun h => ?_) (fun h => ?_))
    | ((with_reducible apply fnQ_told_ret); rfl)
    | ((with_reducible apply fnQ_ret_soft); rfl; rfl)
    | ((with_reducible apply fnQ_ret_row); rfl; rfl; rfl)
  all_goals (try dsimp only at *)
  · have hh := h
    simp only [decide_eq_true_eq] at *
    have e := w_ctn (l := l) (v := v) (k := k) (by omega) (by simpa using hh)
    rw [gA, if_pos e, dd_t e]
    rfl
  · have hh := h
    simp only [decide_eq_true_eq] at *
    have e := w_ctn (l := l) (v := v) (k := k) (by omega) (by simpa using hh)
    rw [gA, if_pos e, dd_t e]
    exact ⟨⟨_, rfl, rfl, rfl, rfl⟩, ⟨_, rfl, rfl, rfl, fzP_vals (fun _ => rfl) rfl⟩, trivial⟩
  · simp only [decide_eq_true_eq] at *
    omega
  · have hh := h
    simp only [decide_eq_true_eq] at *
    refine ⟨by omega, fun j hj => ?_⟩
    by_cases e : j = k
    · subst e
      simpa using hh
    · exact hx.2 j (by omega)
  · have e := w_nct (l := l) (v := v) fun j hj => hx.2 j (by simp only [decide_eq_false_iff_not] at h; omega)
    rw [gA, if_neg (by rw [e]; simp), dd_f e]
    rfl
  · have e := w_nct (l := l) (v := v) fun j hj => hx.2 j (by simp only [decide_eq_false_iff_not] at h; omega)
    rw [gA, if_neg (by rw [e]; simp), dd_f e]
    exact ⟨⟨_, rfl, rfl, rfl, rfl⟩, ⟨_, rfl, rfl, rfl, fzP_vals (fun _ => rfl) rfl⟩, trivial⟩
  · exact ⟨by omega, fun j hj => absurd hj (by omega)⟩
theorem h_add2 (l : List Int) (hl : l.length ≤ 1000) (g : Nat) (v : Int) (i0 : In) : HSpec Go.Proofs.Tryd.prog gl 48 [.ref 2 g 0 l.length, .int .i64 v] (Hp.ofL [some ⟨0, 11, [pI i0]⟩, none, some ⟨g, 1, l.map pint⟩]) (fun r G => r = .ref 2 (gA g l v) 0 (dd l v).length ∧ G = Hp.ofL [some ⟨0, 11, [pI i0]⟩, none, some ⟨gA g l v, 1, (dd l v).map pint⟩]) := by
  refine HSpec.fnL (Nat.le_refl _) hmix b48 ?_
  change Tr _ _ 3 _ _ _ _
  repeat' first
    | with_reducible refine tr_seq ?_
    | ((with_reducible refine tr_region_f ?_ ?_); kernel_rfl)
    | with_reducible refine n_nil ?_
    | with_reducible refine seqQ_normal ?_
    | with_reducible refine seqQ_exit ?_
    | with_reducible refine seqQ_ret ?_
    | with_reducible refine blkQ_normal ?_
    | with_reducible refine blkQ_exit ?_
    | with_reducible refine blkQ_ret ?_
    | ((with_reducible refine blkQ_exit_ne ?_ ?_); rfl)
    | with_reducible refine tr_block ?_
    | with_reducible refine tr_skip ?_
    | with_reducible refine tr_exit ?_
    | with_reducible refine tr_ret ?_
    | ((with_reducible apply tr_cond_e); rfl)
    | with_reducible refine condT_t ?_
    | with_reducible refine condT_f ?_
    | with_reducible refine loopV_exit ?_
    | with_reducible refine loopV_ret ?_
    | ((with_reducible apply n_idx_own); rfl; rfl; rfl; (first | omega | decide | (simp only [decide_eq_true_eq, decide_eq_false_iff_not, Bool.or_eq_false_iff, Bool.not_eq_true', Bool.not_eq_false', Bool.not_true, Bool.not_false, ints_length, List.length_map, tab_length] at *; omega)))
    | ((with_reducible apply n_load_vals (f := pint) (0 : Int)); rfl; rfl; rfl; (first | omega | decide | (simp only [decide_eq_true_eq, decide_eq_false_iff_not, Bool.or_eq_false_iff, Bool.not_eq_true', Bool.not_eq_false', Bool.not_true, Bool.not_false, ints_length, List.length_map, tab_length] at *; omega)))
    | ((with_reducible apply n_append_valsL (f := pint) v); rfl; rfl; rfl; rfl; rfl; rfl; (omega); rfl)
    | (first | ((with_reducible apply n_bin); rfl; rfl; focus ((with_reducible (first | apply b_add | apply b_sub)) <;> first | omega | decide | (simp only [decide_eq_true_eq, decide_eq_false_iff_not, Bool.or_eq_false_iff, Bool.not_eq_true', Bool.not_eq_false', Bool.not_true, Bool.not_false, ints_length, List.length_map, tab_length] at *; omega))) | ((with_reducible apply n_max); rfl; rfl) | ((with_reducible apply n_min); rfl; rfl))
    | (refine tr_loop_v (α := Nat) 3 (fun | k => [(5, some (.int .i64 (k : Int))), (6, none), (7, none), (8, none), (9, none), (12, none), (13, none), (14, none), (15, none), (16, none), (17, none), (18, none), (4, none), (10, none), (11, none)]) (fun | k => [some ⟨0, 11, [pI i0]⟩, none, some ⟨g, 1, l.map pint⟩]) (fun | k => k ≤ l.length ∧ ∀ j, j < k → l.getD j 0 ≠ v) (fun | k => l.length - k) (0) (ks := [5, 6, 7, 8, 9, 12, 13, 14, 15, 16, 17, 18, 4, 10, 11]) (fun _ => rfl) (fun _ => rfl) rfl (by omega) ?_ ⟨⟨_, rfl, rfl⟩, trivial⟩ ⟨⟨_, rfl, rfl, rfl, (by first | exact fzP_vals (fun _ => rfl) rfl |  rfl | exact fzP_pure (ints_pure _) | exact fzP_pure (u64s_pure _) | exact fzP_pure (by assumption) | exact fzP_pure (by first | (simp [pureE, pure1, ints]; done) | (simp_all [pe_int, pe_bool, pe_str, pe_sl, pe_agg, p1_int, p1_bool, p1_str, p1_sl]; done)))⟩, ⟨_, rfl, rfl, rfl, (by first | exact fzP_vals (fun _ => rfl) rfl |  rfl | exact fzP_pure (ints_pure _) | exact fzP_pure (u64s_pure _) | exact fzP_pure (by assumption) | exact fzP_pure (by first | (simp [pureE, pure1, ints]; done) | (simp_all [pe_int, pe_bool, pe_str, pe_sl, pe_agg, p1_int, p1_bool, p1_str, p1_sl]; done)))⟩, trivial⟩ ?_; rotate_left; rintro k hx; try dsimp only at hx)
    | ((first | (refine loopV_normal (k + 1) ?_ ⟨⟨_, rfl, rfl⟩, trivial⟩ ⟨⟨_, rfl, rfl, rfl, (by first | exact fzP_vals (fun _ => rfl) rfl |  rfl | exact fzP_pure (ints_pure _) | exact fzP_pure (u64s_pure _) | exact fzP_pure (by assumption) | exact fzP_pure (by first | (simp [pureE, pure1, ints]; done) | (simp_all [pe_int, pe_bool, pe_str, pe_sl, pe_agg, p1_int, p1_bool, p1_str, p1_sl]; done)))⟩, ⟨_, rfl, rfl, rfl, (by first | exact fzP_vals (fun _ => rfl) rfl |  rfl | exact fzP_pure (ints_pure _) | exact fzP_pure (u64s_pure _) | exact fzP_pure (by assumption) | exact fzP_pure (by first | (simp [pureE, pure1, ints]; done) | (simp_all [pe_int, pe_bool, pe_str, pe_sl, pe_agg, p1_int, p1_bool, p1_str, p1_sl]; done)))⟩, trivial⟩ ?_ ?_)); repeat (first | exact only_refl | refine only_put rfl ?_ | refine only_less rfl ?_ | refine only_ov rfl ?_))
    | ((with_reducible apply n_val); rfl; rfl)
    | ((with_reducible apply n_append); rfl; rfl; rfl; rfl; rfl; rfl; (first | decide | (simp only [List.length_append, List.length_cons, List.length_nil, List.length_set, List.length_replicate, ints_length] at *; omega)); rfl)
    | ((with_reducible apply n_append_lit); rfl; rfl; rfl; rfl; rfl; (first | decide | (simp only [List.length_append, List.length_cons, List.length_nil, List.length_set, List.length_replicate, ints_length] at *; omega)); (first | (simp only [hn0, hn1, hn2, hn3, hn4, hn5, List.length_cons, List.length_nil, Nat.reduceAdd, Nat.zero_add]; done) | (simp only [hn0, hn1, hn2, hn3, hn4, hn5, List.length_cons, List.length_nil, Nat.reduceAdd, Nat.zero_add]; rfl) | rfl); rfl)
    | (with_reducible refine condT_split (fun h => ?_) (fun h => ?_))
    | ((with_reducible apply fnQ_told_ret); rfl)
    | ((with_reducible apply fnQ_ret_soft); rfl; rfl)
    | ((with_reducible apply fnQ_ret_row); rfl; rfl; rfl)
  all_goals (try dsimp only at *)
  · have hh := h
    simp only [decide_eq_true_eq] at *
    have e := w_ctn (l := l) (v := v) (k := k) (by omega) (by simpa using hh)
    rw [gA, if_pos e, dd_t e]
    rfl
  · have hh := h
    simp only [decide_eq_true_eq] at *
    have e := w_ctn (l := l) (v := v) (k := k) (by omega) (by simpa using hh)
    rw [gA, if_pos e, dd_t e]
    exact ⟨⟨_, rfl, rfl, rfl, rfl⟩, ⟨_, rfl, rfl, rfl, fzP_vals (fun _ => rfl) rfl⟩, trivial⟩
  · simp only [decide_eq_true_eq] at *
    omega
  · have hh := h
    simp only [decide_eq_true_eq] at *
    refine ⟨by omega, fun j hj => ?_⟩
    by_cases e : j = k
    · subst e
      simpa using hh
    · exact hx.2 j (by omega)
  · have e := w_nct (l := l) (v := v) fun j hj => hx.2 j (by simp only [decide_eq_false_iff_not] at h; omega)
    rw [gA, if_neg (by rw [e]; simp), dd_f e]
    rfl
  · have e := w_nct (l := l) (v := v) fun j hj => hx.2 j (by simp only [decide_eq_false_iff_not] at h; omega)
    rw [gA, if_neg (by rw [e]; simp), dd_f e]
    exact ⟨⟨_, rfl, rfl, rfl, rfl⟩, ⟨_, rfl, rfl, rfl, fzP_vals (fun _ => rfl) rfl⟩, trivial⟩
  · exact ⟨by omega, fun j hj => absurd hj (by omega)⟩
end

end Go.Vm

end
