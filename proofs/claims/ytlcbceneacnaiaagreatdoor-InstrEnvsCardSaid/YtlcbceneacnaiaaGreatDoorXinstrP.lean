/- Laid. -/
import Derived.Test.YtlcbceneacnaiaaGreatDoorVmThree
import Derived.KernelRfl
import Derived.Test.YtlcbceneacnaiaaGreatDoorProg
import Derived.Test.YtlcbceneacnaiaaGreatDoorXinstrK
import Derived.Test.YtlcbceneacnaiaaGreatDoorLAll
section
/- Code. -/
set_option maxRecDepth 100000
set_option linter.unusedSimpArgs false
set_option linter.unusedVariables false
namespace Go.Vm
open Go
def c33 : RFn := ⟨(.seq (.region (Nodes.flat none (.op (some 1) (.box (.t 0)) 0
  (.op (some 2) (.move (.c (.int .i64 0))) 0
  .nil))) false)
 (.seq (.seq (.region (Nodes.flat none (.op (some 3) (.load (some 11) (.t 1)) 0
  (.op (some 4) (.call 67 [(.t 3)]) 0
  (.op (some 5) (.un .not (.t 4)) 0
  (.op (some 6) (.move (.t 5)) 0
  (.grd 6 false
  (.op (some 7) (.fieldAddr 1 (.t 1)) 0
  (.op (some 8) (.load none (.t 7)) 0
  (.op (some 9) (.call 68 [(.t 8)]) 0
  (.op (some 10) (.un .not (.t 9)) 0
  .nil))))
  (.op (some 11) (.pick (.t 6) (.c (.bool true)) (.t 10)) 0
  .nil))))))) false)
 (.cond (.t 11)
 (.seq (.region (Nodes.flat none (.op (some 2) (.move (.c (.int .i64 (-1)))) 0
  .nil)) false)
 .ret)
 .skip))
 (.seq (.region (Nodes.flat none (.op (some 12) (.fieldAddr 2 (.t 1)) 0
  (.op (some 13) (.load none (.t 12)) 0
  (.op (some 2) (.move (.t 13)) 0
  .nil)))) false)
 .ret))),
 [.tmp 2]⟩
theorem b33 : fnOf Go.Proofs.Tryz.prog (owOf []) 33 = some c33 := by kernel_rfl
def c67 : RFn := ⟨(.seq (.region (Nodes.flat none (.op (some 1) (.box (.t 0)) 0
  (.op (some 2) (.move (.c (.bool false))) 0
  .nil))) false)
 (.seq (.region (Nodes.flat none (.op (some 5) (.fieldAddr 1 (.t 1)) 0
  (.op (some 6) (.load none (.t 5)) 0
  (.op (some 3) (.move (.t 6)) 0
  .nil)))) false)
 (.seq (.seq (.region (Nodes.flat none (.op (some 7) (.move (.t 3)) 0
  (.op (some 8) (.bin .lss (.t 7) (.c (.int .i64 0))) 0
  (.op (some 9) (.move (.t 8)) 0
  (.grd 9 false
  (.op (some 10) (.move (.t 3)) 0
  (.op (some 11) (.bin .gtr (.t 10) (.c (.int .i64 9))) 0
  .nil))
  (.op (some 12) (.pick (.t 9) (.c (.bool true)) (.t 11)) 0
  (.op (some 13) (.move (.t 12)) 0
  (.grd 13 false
  (.op (some 14) (.fieldAddr 0 (.t 1)) 0
  (.op (some 15) (.load none (.t 14)) 0
  (.op (some 16) (.bin .lss (.t 15) (.c (.int .i64 0))) 0
  .nil)))
  (.op (some 17) (.pick (.t 13) (.c (.bool true)) (.t 16)) 0
  (.op (some 18) (.move (.t 17)) 0
  (.grd 18 false
  (.op (some 19) (.fieldAddr 0 (.t 1)) 0
  (.op (some 20) (.load none (.t 19)) 0
  (.op (some 21) (.bin .gtr (.t 20) (.c (.int .i64 95))) 0
  .nil)))
  (.op (some 22) (.pick (.t 18) (.c (.bool true)) (.t 21)) 0
  (.op (some 23) (.move (.t 22)) 0
  (.grd 23 false
  (.op (some 24) (.fieldAddr 7 (.t 1)) 0
  (.op (some 25) (.load none (.t 24)) 0
  (.op (some 26) (.bin .lss (.t 25) (.c (.int .i64 0))) 0
  .nil)))
  (.op (some 27) (.pick (.t 23) (.c (.bool true)) (.t 26)) 0
  (.op (some 28) (.move (.t 27)) 0
  (.grd 28 false
  (.op (some 29) (.fieldAddr 7 (.t 1)) 0
  (.op (some 30) (.load none (.t 29)) 0
  (.op (some 31) (.bin .gtr (.t 30) (.c (.int .i64 3))) 0
  .nil)))
  (.op (some 32) (.pick (.t 28) (.c (.bool true)) (.t 31)) 0
  .nil)))))))))))))))))) false)
 (.cond (.t 32)
 (.seq (.region (Nodes.flat none (.op (some 2) (.move (.c (.bool false))) 0
  .nil)) false)
 .ret)
 .skip))
 (.seq (.seq (.region (Nodes.flat none (.op (some 33) (.move (.t 3)) 0
  (.op (some 34) (.call 68 [(.t 33)]) 1
  (.op (some 35) (.fieldAddr 2 (.t 1)) 0
  (.op (some 36) (.load none (.t 35)) 4
  (.op (some 37) (.call 118 [(.t 34), (.t 36)]) 15
  (.op (some 38) (.un .not (.t 37)) 31
  (.op (some 39) (.move (.t 38)) 63
  (.grd 39 false
  (.op (some 40) (.move (.t 3)) 127
  (.op (some 41) (.call 119 [(.t 40)]) 255
  (.op (some 42) (.fieldAddr 3 (.t 1)) 127
  (.op (some 43) (.load none (.t 42)) 639
  (.op (some 44) (.call 118 [(.t 41), (.t 43)]) 2047
  (.op (some 45) (.un .not (.t 44)) 4095
  .nil))))))
  (.op (some 46) (.pick (.t 39) (.c (.bool true)) (.t 45)) 8191
  (.op (some 47) (.move (.t 46)) 16383
  (.grd 47 false
  (.op (some 48) (.move (.t 3)) 32767
  (.op (some 49) (.call 120 [(.t 48)]) 65535
  (.op (some 50) (.fieldAddr 4 (.t 1)) 32767
  (.op (some 51) (.load none (.t 50)) 163839
  (.op (some 52) (.call 118 [(.t 49), (.t 51)]) 524287
  (.op (some 53) (.un .not (.t 52)) 1048575
  .nil))))))
  (.op (some 54) (.pick (.t 47) (.c (.bool true)) (.t 53)) 2097151
  (.op (some 55) (.move (.t 54)) 4194303
  (.grd 55 false
  (.op (some 56) (.move (.t 3)) 8388607
  (.op (some 57) (.bin .eql (.t 56) (.c (.int .i64 7))) 16777215
  (.op (some 58) (.fieldAddr 6 (.t 1)) 8388607
  (.op (some 59) (.load none (.t 58)) 41943039
  (.op (some 60) (.call 118 [(.t 57), (.t 59)]) 134217727
  (.op (some 61) (.un .not (.t 60)) 268435455
  .nil))))))
  (.op (some 62) (.pick (.t 55) (.c (.bool true)) (.t 61)) 536870911
  (.op (some 63) (.move (.t 62)) 1073741823
  (.grd 63 false
  (.op (some 64) (.move (.t 3)) 2147483647
  (.op (some 65) (.bin .eql (.t 64) (.c (.int .i64 7))) 4294967295
  (.op (some 66) (.fieldAddr 7 (.t 1)) 2147483647
  (.op (some 67) (.load none (.t 66)) 10737418239
  (.op (some 68) (.call 118 [(.t 65), (.t 67)]) 34359738367
  (.op (some 69) (.un .not (.t 68)) 68719476735
  .nil))))))
  (.op (some 70) (.pick (.t 63) (.c (.bool true)) (.t 69)) 137438953471
  .nil))))))))))))))))))) true)
 (.cond (.t 70)
 (.seq (.region (Nodes.flat none (.op (some 2) (.move (.c (.bool false))) 0
  .nil)) false)
 .ret)
 .skip))
 (.seq (.seq (.region (Nodes.flat none (.op (some 71) (.move (.t 3)) 0
  (.op (some 72) (.bin .neq (.t 71) (.c (.int .i64 0))) 0
  (.op (some 73) (.move (.t 72)) 0
  (.grd 73 true
  (.op (some 74) (.fieldAddr 5 (.t 1)) 0
  (.op (some 75) (.load none (.t 74)) 0
  (.op (some 76) (.bin .neq (.t 75) (.c (.int .i64 0))) 0
  .nil)))
  (.op (some 77) (.pick (.t 73) (.t 76) (.c (.bool false))) 0
  (.op (some 78) (.move (.t 77)) 0
  (.grd 78 false
  (.op (some 79) (.fieldAddr 5 (.t 1)) 0
  (.op (some 80) (.load none (.t 79)) 0
  (.op (some 81) (.bin .lss (.t 80) (.c (.int .i64 (-2147483648)))) 0
  .nil)))
  (.op (some 82) (.pick (.t 78) (.c (.bool true)) (.t 81)) 0
  (.op (some 83) (.move (.t 82)) 0
  (.grd 83 false
  (.op (some 84) (.fieldAddr 5 (.t 1)) 0
  (.op (some 85) (.load none (.t 84)) 0
  (.op (some 86) (.bin .gtr (.t 85) (.c (.int .i64 2147483647))) 0
  .nil)))
  (.op (some 87) (.pick (.t 83) (.c (.bool true)) (.t 86)) 0
  .nil)))))))))))) false)
 (.cond (.t 87)
 (.seq (.region (Nodes.flat none (.op (some 2) (.move (.c (.bool false))) 0
  .nil)) false)
 .ret)
 .skip))
 (.seq (.seq (.region (Nodes.flat none (.op (some 4) (.move (.c (.int .i64 0))) 0
  .nil)) false)
 (.block 0 (.loop (.seq (.seq (.region (Nodes.flat none (.op (some 88) (.move (.t 4)) 0
  (.op (some 89) (.bin .lss (.t 88) (.c (.int .i64 3))) 0
  .nil))) false)
 (.cond (.t 89)
 .skip
 (.exit 0)))
 (.seq (.block 1 (.seq (.region (Nodes.flat none (.op (some 92) (.move (.t 4)) 0
  (.op (some 93) (.fieldAddr 7 (.t 1)) 0
  (.op (some 94) (.load none (.t 93)) 2
  (.op (some 95) (.bin .lss (.t 92) (.t 94)) 7
  (.op (some 96) (.move (.t 4)) 0
  (.op (some 97) (.fieldAddr 8 (.t 1)) 0
  (.op (some 98) (.idxAddrA 3 1 (.t 97) (.t 96)) 48
  (.op (some 99) (.load none (.t 98)) 112
  (.op (some 100) (.call 118 [(.t 95), (.t 99)]) 255
  (.op (some 101) (.un .not (.t 100)) 511
  .nil))))))))))) true)
 (.cond (.t 101)
 (.seq (.region (Nodes.flat none (.op (some 2) (.move (.c (.bool false))) 0
  .nil)) false)
 .ret)
 .skip)))
 (.region (Nodes.flat none (.op (some 90) (.move (.t 4)) 0
  (.op (some 91) (.bin .add (.t 90) (.c (.int .i64 1))) 0
  (.op (some 4) (.move (.t 91)) 0
  .nil)))) false))))))
 (.seq (.region (Nodes.flat none (.op (some 2) (.move (.c (.bool true))) 0
  .nil)) false)
 .ret))))))),
 [.tmp 2]⟩
theorem b67 : fnOf Go.Proofs.Tryz.prog (owOf []) 67 = some c67 := by kernel_rfl
def c68 : RFn := ⟨(.seq (.region (Nodes.flat none (.op (some 2) (.move (.c (.bool false))) 0
  .nil)) false)
 (.seq (.region (Nodes.flat none (.op (some 3) (.move (.t 0)) 0
  (.op (some 4) (.bin .geq (.t 3) (.c (.int .i64 0))) 0
  (.op (some 5) (.move (.t 4)) 0
  (.grd 5 true
  (.op (some 6) (.move (.t 0)) 0
  (.op (some 7) (.bin .leq (.t 6) (.c (.int .i64 7))) 0
  .nil))
  (.op (some 8) (.pick (.t 5) (.t 7) (.c (.bool false))) 0
  (.op (some 2) (.move (.t 8)) 0
  .nil))))))) false)
 .ret)),
 [.tmp 2]⟩
theorem b68 : fnOf Go.Proofs.Tryz.prog (owOf []) 68 = some c68 := by kernel_rfl
def c118 : RFn := ⟨(.seq (.region (Nodes.flat none (.op (some 4) (.move (.c (.bool false))) 0
  .nil)) false)
 (.seq (.region (Nodes.flat none (.op (some 5) (.move (.t 0)) 0
  (.op (some 6) (.move (.t 5)) 0
  (.grd 6 true
  (.op (some 7) (.move (.t 1)) 0
  (.op (some 8) (.bin .geq (.t 7) (.c (.int .i64 0))) 0
  .nil))
  (.op (some 9) (.pick (.t 6) (.t 8) (.c (.bool false))) 0
  (.op (some 10) (.move (.t 9)) 0
  (.grd 10 false
  (.op (some 11) (.move (.t 1)) 0
  (.op (some 12) (.bin .eql (.t 11) (.c (.int .i64 0))) 0
  .nil))
  (.op (some 13) (.pick (.t 10) (.c (.bool true)) (.t 12)) 0
  (.op (some 4) (.move (.t 13)) 0
  .nil))))))))) false)
 .ret)),
 [.tmp 4]⟩
theorem b118 : fnOf Go.Proofs.Tryz.prog (owOf []) 118 = some c118 := by kernel_rfl
def c119 : RFn := ⟨(.seq (.region (Nodes.flat none (.op (some 2) (.move (.c (.bool false))) 0
  .nil)) false)
 (.seq (.region (Nodes.flat none (.op (some 3) (.move (.t 0)) 0
  (.op (some 4) (.bin .geq (.t 3) (.c (.int .i64 1))) 0
  (.op (some 5) (.move (.t 4)) 0
  (.grd 5 true
  (.op (some 6) (.move (.t 0)) 0
  (.op (some 7) (.bin .leq (.t 6) (.c (.int .i64 5))) 0
  .nil))
  (.op (some 8) (.pick (.t 5) (.t 7) (.c (.bool false))) 0
  (.op (some 9) (.move (.t 8)) 0
  (.grd 9 false
  (.op (some 10) (.move (.t 0)) 0
  (.op (some 11) (.bin .eql (.t 10) (.c (.int .i64 8))) 0
  .nil))
  (.op (some 12) (.pick (.t 9) (.c (.bool true)) (.t 11)) 0
  (.op (some 13) (.move (.t 12)) 0
  (.grd 13 false
  (.op (some 14) (.move (.t 0)) 0
  (.op (some 15) (.bin .eql (.t 14) (.c (.int .i64 9))) 0
  .nil))
  (.op (some 16) (.pick (.t 13) (.c (.bool true)) (.t 15)) 0
  (.op (some 2) (.move (.t 16)) 0
  .nil))))))))))))) false)
 .ret)),
 [.tmp 2]⟩
theorem b119 : fnOf Go.Proofs.Tryz.prog (owOf []) 119 = some c119 := by kernel_rfl
def c120 : RFn := ⟨(.seq (.region (Nodes.flat none (.op (some 2) (.move (.c (.bool false))) 0
  .nil)) false)
 (.seq (.region (Nodes.flat none (.op (some 3) (.move (.t 0)) 0
  (.op (some 4) (.bin .geq (.t 3) (.c (.int .i64 3))) 0
  (.op (some 5) (.move (.t 4)) 0
  (.grd 5 true
  (.op (some 6) (.move (.t 0)) 0
  (.op (some 7) (.bin .leq (.t 6) (.c (.int .i64 5))) 0
  .nil))
  (.op (some 8) (.pick (.t 5) (.t 7) (.c (.bool false))) 0
  (.op (some 2) (.move (.t 8)) 0
  .nil))))))) false)
 .ret)),
 [.tmp 2]⟩
theorem b120 : fnOf Go.Proofs.Tryz.prog (owOf []) 120 = some c120 := by kernel_rfl
end Go.Vm
end
section
/- Walks. -/
set_option maxRecDepth 100000
set_option linter.unusedSimpArgs false
set_option linter.unusedVariables false
namespace Go.Vm
open Go
set_option maxHeartbeats 4000000
section
variable {gl : Nat → Option PV}
theorem p_r5_hasDst (k : Int) : Pure Go.Proofs.Tryz.prog gl 68 [.int .i64 k] (.bool (hD k)) := by
  refine Pure.fn hmix b68 ?_
  repeat' first
    | with_reducible refine tr_seq ?_
    | ((with_reducible refine tr_region_f ?_ ?_); kernel_rfl)
    | with_reducible refine n_nil ?_
    | exact ⟨rfl, rfl⟩
    | with_reducible refine seqQ_normal ?_
    | with_reducible refine seqQ_ret ?_
    | with_reducible refine blkQ_ret ?_
    | with_reducible refine tr_ret ?_
    | ((with_reducible apply n_and); rfl; rfl; intro h)
    | ((with_reducible apply n_or); rfl; rfl; intro h)
    | ((with_reducible apply n_val); rfl; rfl)
    | ((with_reducible apply fnQ_told_ret); rfl)
    | ((with_reducible apply fnQ_ret_soft); rfl; rfl)
  rfl
theorem p_r5_hasA (k : Int) : Pure Go.Proofs.Tryz.prog gl 119 [.int .i64 k] (.bool (hA k)) := by
  refine Pure.fn hmix b119 ?_
  repeat' first
    | with_reducible refine tr_seq ?_
    | ((with_reducible refine tr_region_f ?_ ?_); kernel_rfl)
    | with_reducible refine n_nil ?_
    | exact ⟨rfl, rfl⟩
    | with_reducible refine seqQ_normal ?_
    | with_reducible refine seqQ_ret ?_
    | with_reducible refine blkQ_ret ?_
    | with_reducible refine tr_ret ?_
    | ((with_reducible apply n_and); rfl; rfl; intro h)
    | ((with_reducible apply n_or); rfl; rfl; intro h)
    | ((with_reducible apply n_val); rfl; rfl)
    | ((with_reducible apply fnQ_told_ret); rfl)
    | ((with_reducible apply fnQ_ret_soft); rfl; rfl)
  rfl
theorem p_r5_hasB (k : Int) : Pure Go.Proofs.Tryz.prog gl 120 [.int .i64 k] (.bool (hB k)) := by
  refine Pure.fn hmix b120 ?_
  repeat' first
    | with_reducible refine tr_seq ?_
    | ((with_reducible refine tr_region_f ?_ ?_); kernel_rfl)
    | with_reducible refine n_nil ?_
    | exact ⟨rfl, rfl⟩
    | with_reducible refine seqQ_normal ?_
    | with_reducible refine seqQ_ret ?_
    | with_reducible refine blkQ_ret ?_
    | with_reducible refine tr_ret ?_
    | ((with_reducible apply n_and); rfl; rfl; intro h)
    | ((with_reducible apply n_or); rfl; rfl; intro h)
    | ((with_reducible apply n_val); rfl; rfl)
    | ((with_reducible apply fnQ_told_ret); rfl)
    | ((with_reducible apply fnQ_ret_soft); rfl; rfl)
  rfl
theorem p_r5_none (b : Bool) (n : Int) : Pure Go.Proofs.Tryz.prog gl 118 [.bool b, .int .i64 n] (.bool (none5 b n)) := by
  refine Pure.fn hmix b118 ?_
  repeat' first
    | with_reducible refine tr_seq ?_
    | ((with_reducible refine tr_region_f ?_ ?_); kernel_rfl)
    | with_reducible refine n_nil ?_
    | exact ⟨rfl, rfl⟩
    | with_reducible refine seqQ_normal ?_
    | with_reducible refine seqQ_ret ?_
    | with_reducible refine blkQ_ret ?_
    | with_reducible refine tr_ret ?_
    | ((with_reducible apply n_and); rfl; rfl; intro h)
    | ((with_reducible apply n_or); rfl; rfl; intro h)
    | ((with_reducible apply n_val); rfl; rfl)
    | ((with_reducible apply fnQ_told_ret); rfl)
    | ((with_reducible apply fnQ_ret_soft); rfl; rfl)
  rfl
theorem p_r5_Form (i : In) : Pure Go.Proofs.Tryz.prog gl 67 [pI i] (.bool (form i)) := by
  refine Pure.fn hmix b67 ?_
  repeat' first
    | with_reducible refine tr_seq ?_
    | ((with_reducible refine tr_region_f ?_ ?_); kernel_rfl)
    | ((with_reducible refine tr_region_t ?_ ?_ ?_); kernel_rfl; kernel_rfl)
    | with_reducible refine n_nil ?_
    | exact ⟨rfl, rfl⟩
    | with_reducible refine seqQ_normal ?_
    | with_reducible refine seqQ_exit ?_
    | with_reducible refine seqQ_ret ?_
    | with_reducible refine blkQ_normal ?_
    | with_reducible refine blkQ_exit ?_
    | with_reducible refine blkQ_ret ?_
    | ((with_reducible refine blkQ_exit_ne ?_ ?_); rfl)
    | with_reducible refine tr_block ?_
    | with_reducible refine tr_skip ?_
    | with_reducible refine tr_exit ?_
    | with_reducible refine tr_ret ?_
    | ((with_reducible apply tr_cond_e); rfl)
    | with_reducible refine condT_t ?_
    | with_reducible refine condT_f ?_
    | ((with_reducible refine condT_T ?_ ?_); decide +kernel)
    | ((with_reducible refine condT_F ?_ ?_); decide +kernel)
    | ((with_reducible apply n_andF); rfl; rfl; decide +kernel)
    | ((with_reducible apply n_orT); rfl; rfl; decide +kernel)
    | ((with_reducible apply n_and); rfl; rfl; intro h)
    | ((with_reducible apply n_or); rfl; rfl; intro h)
    | with_reducible refine loopV_exit ?_
    | with_reducible refine loopV_ret ?_
    | with_reducible refine unrQ_normal ?_
    | with_reducible refine unrQ_exit ?_
    | with_reducible refine unrQ_ret ?_
    | refine tr_unroll 4 ?_
    | ((with_reducible apply n_val); rfl; rfl)
    | ((with_reducible apply n_new); rfl; (first | (simp only [hn0, hn1, hn2, hn3, hn4, hn5, List.length_cons, List.length_nil, Nat.reduceAdd, Nat.zero_add]; done) | (simp only [hn0, hn1, hn2, hn3, hn4, hn5, List.length_cons, List.length_nil, Nat.reduceAdd, Nat.zero_add]; rfl) | rfl); rfl)
    | ((with_reducible apply n_call (f := 68)); rfl; rfl; exact p_r5_hasDst ..)
    | ((with_reducible apply n_call (f := 119)); rfl; rfl; exact p_r5_hasA ..)
    | ((with_reducible apply n_call (f := 120)); rfl; rfl; exact p_r5_hasB ..)
    | ((with_reducible apply n_call (f := 118)); rfl; rfl; exact p_r5_none ..)
    | (with_reducible refine condT_split (fun h => ?_) (fun h => ?_))
    | ((with_reducible apply fnQ_told_ret); rfl)
    | ((with_reducible apply fnQ_ret_soft); rfl; rfl)
  all_goals (try simp only [w64_1, w64_2] at *)
  · refine congrArg PV.bool (form_no fun hh => ?_).symm
    simp only [Bool.or_eq_true, decide_eq_true_eq] at h
    omega
  · refine congrArg PV.bool (form_no fun hh => ?_).symm
    obtain ⟨_, ⟨h1, h2, h3, h4, h5⟩, _⟩ := hh
    rw [h1, h2, h3, h4, h5] at h
    cases h
  · refine congrArg PV.bool (form_no fun hh => ?_).symm
    simp only [Bool.or_eq_true, Bool.and_eq_true, bne_iff_ne, ne_eq, decide_eq_true_eq] at h
    omega
  · refine congrArg PV.bool (form_no fun hh => ?_).symm
    rw [hh.2.2.2.1] at h
    cases h
  · refine congrArg PV.bool (form_no fun hh => ?_).symm
    rw [hh.2.2.2.2.1] at h
    cases h
  · refine congrArg PV.bool (form_no fun hh => ?_).symm
    rw [hh.2.2.2.2.2] at h
    cases h
  · refine congrArg PV.bool ((form_iff i).2 ?_).symm
    simp only [Bool.or_eq_false_iff, Bool.and_eq_false_iff, bne_eq_false_iff_eq, Bool.not_eq_false', decide_eq_false_iff_not] at *
    refine ⟨?_, ?_, ?_, ?_⟩
    · omega
    · simp_all
    · omega
    · simp_all
theorem p_r5_Def (i : In) : Pure Go.Proofs.Tryz.prog gl 33 [pI i] (.int .i64 (defI i)) := by
  refine Pure.fn hmix b33 ?_
  repeat' first
    | with_reducible refine tr_seq ?_
    | ((with_reducible refine tr_region_f ?_ ?_); kernel_rfl)
    | with_reducible refine n_nil ?_
    | exact ⟨rfl, rfl⟩
    | with_reducible refine seqQ_normal ?_
    | with_reducible refine seqQ_ret ?_
    | with_reducible refine blkQ_ret ?_
    | with_reducible refine tr_skip ?_
    | with_reducible refine tr_ret ?_
    | ((with_reducible apply tr_cond_e); rfl)
    | with_reducible refine condT_t ?_
    | with_reducible refine condT_f ?_
    | ((with_reducible apply n_and); rfl; rfl; intro h)
    | ((with_reducible apply n_or); rfl; rfl; intro h)
    | ((with_reducible apply n_val); rfl; rfl)
    | ((with_reducible apply n_new); rfl; (first | (simp only [hn0, hn1, hn2, hn3, hn4, hn5, List.length_cons, List.length_nil, Nat.reduceAdd, Nat.zero_add]; done) | (simp only [hn0, hn1, hn2, hn3, hn4, hn5, List.length_cons, List.length_nil, Nat.reduceAdd, Nat.zero_add]; rfl) | rfl); rfl)
    | ((with_reducible apply n_call (f := 67)); rfl; rfl; exact p_r5_Form ..)
    | ((with_reducible apply n_call (f := 68)); rfl; rfl; exact p_r5_hasDst ..)
    | (with_reducible refine condT_split (fun h => ?_) (fun h => ?_))
    | ((with_reducible apply fnQ_told_ret); rfl)
    | ((with_reducible apply fnQ_ret_soft); rfl; rfl)
  · refine congrArg _ ?_
    rw [defI, if_neg]
    cases h1 : form i <;> cases h2 : hD i.kind <;> simp_all
  · refine congrArg _ ?_
    rw [defI, if_pos]
    cases h1 : form i <;> cases h2 : hD i.kind <;> simp_all
end
end Go.Vm
end
