/- Laid. -/
import Derived.Test.YtlllcmahmgdppaaGreatDoorVmThree
import Derived.KernelRfl
import Derived.Test.YtlllcmahmgdppaaGreatDoorProg
import Derived.Test.YtlllcmahmgdppaaGreatDoorXinstrN
import Derived.Test.YtlllcmahmgdppaaGreatDoorLAll
section
/- Code. -/
set_option maxRecDepth 100000
set_option linter.unusedSimpArgs false
set_option linter.unusedVariables false
namespace Go.Vm
open Go
def c64 : RFn := ⟨(.seq (rf (.o 1 (.box (.t 0)) (.o 2 (.move (.i 0)) .nil))) (.seq (.seq (rf (.o 3 (.load (some 11) (.t 1)) (.o 4 (.call 89 [(.t 3)]) (.o 5 (.un .not (.t 4)) (.o 6 (.m 5) (.grd 6 false (.o 7 (.fieldAddr 1 (.t 1)) (.o 8 (.load none (.t 7)) (.o 9 (.call 90 [(.t 8)]) (.o 10 (.un .not (.t 9)) .nil)))) (.o 11 (.pick (.t 6) (.c (.bool true)) (.t 10)) .nil))))))) (.cond (.t 11) (.seq (rf (.o 2 (.move (.c (.int .i64 (-1)))) .nil)) .ret) .skip)) (.seq (rf (.o 12 (.fieldAddr 2 (.t 1)) (.o 13 (.load none (.t 12)) (.o 2 (.m 13) .nil)))) .ret))), [.tmp 2]⟩
theorem b64 : fnOf Go.Proofs.Tryz.prog (owOf []) 64 = some c64 := by kernel_rfl
def c89 : RFn := ⟨(.seq (rf (.o 1 (.box (.t 0)) (.o 2 (.move (.c (.bool false))) .nil))) (.seq (rf (.o 5 (.fieldAddr 1 (.t 1)) (.o 6 (.load none (.t 5)) (.o 3 (.m 6) .nil)))) (.seq (.seq (rf (.o 7 (.m 3) (.o 8 (.bin .lss (.t 7) (.i 0)) (.o 9 (.m 8) (.grd 9 false (.o 10 (.m 3) (.o 11 (.bin .gtr (.t 10) (.i 9)) .nil)) (.o 12 (.pick (.t 9) (.c (.bool true)) (.t 11)) (.o 13 (.m 12) (.grd 13 false (.o 14 (.fieldAddr 0 (.t 1)) (.o 15 (.load none (.t 14)) (.o 16 (.bin .lss (.t 15) (.i 0)) .nil))) (.o 17 (.pick (.t 13) (.c (.bool true)) (.t 16)) (.o 18 (.m 17) (.grd 18 false (.o 19 (.fieldAddr 0 (.t 1)) (.o 20 (.load none (.t 19)) (.o 21 (.bin .gtr (.t 20) (.i 95)) .nil))) (.o 22 (.pick (.t 18) (.c (.bool true)) (.t 21)) (.o 23 (.m 22) (.grd 23 false (.o 24 (.fieldAddr 7 (.t 1)) (.o 25 (.load none (.t 24)) (.o 26 (.bin .lss (.t 25) (.i 0)) .nil))) (.o 27 (.pick (.t 23) (.c (.bool true)) (.t 26)) (.o 28 (.m 27) (.grd 28 false (.o 29 (.fieldAddr 7 (.t 1)) (.o 30 (.load none (.t 29)) (.o 31 (.bin .gtr (.t 30) (.i 3)) .nil))) (.o 32 (.pick (.t 28) (.c (.bool true)) (.t 31)) .nil)))))))))))))))))) (.cond (.t 32) (.seq (rf (.o 2 (.move (.c (.bool false))) .nil)) .ret) .skip)) (.seq (.seq (rt (.o 33 (.m 3) (.op (some 34) (.call 90 [(.t 33)]) 1 (.o 35 (.fieldAddr 2 (.t 1)) (.op (some 36) (.load none (.t 35)) 4 (.op (some 37) (.call 126 [(.t 34), (.t 36)]) 15 (.op (some 38) (.un .not (.t 37)) 31 (.op (some 39) (.m 38) 63 (.grd 39 false (.op (some 40) (.m 3) 127 (.op (some 41) (.call 127 [(.t 40)]) 255 (.op (some 42) (.fieldAddr 3 (.t 1)) 127 (.op (some 43) (.load none (.t 42)) 639 (.op (some 44) (.call 126 [(.t 41), (.t 43)]) 2047 (.op (some 45) (.un .not (.t 44)) 4095 .nil)))))) (.op (some 46) (.pick (.t 39) (.c (.bool true)) (.t 45)) 8191 (.op (some 47) (.m 46) 16383 (.grd 47 false (.op (some 48) (.m 3) 32767 (.op (some 49) (.call 128 [(.t 48)]) 65535 (.op (some 50) (.fieldAddr 4 (.t 1)) 32767 (.op (some 51) (.load none (.t 50)) 163839 (.op (some 52) (.call 126 [(.t 49), (.t 51)]) 524287 (.op (some 53) (.un .not (.t 52)) 1048575 .nil)))))) (.op (some 54) (.pick (.t 47) (.c (.bool true)) (.t 53)) 2097151 (.op (some 55) (.m 54) 4194303 (.grd 55 false (.op (some 56) (.m 3) 8388607 (.op (some 57) (.bin .eql (.t 56) (.i 7)) 16777215 (.op (some 58) (.fieldAddr 6 (.t 1)) 8388607 (.op (some 59) (.load none (.t 58)) 41943039 (.op (some 60) (.call 126 [(.t 57), (.t 59)]) 134217727 (.op (some 61) (.un .not (.t 60)) 268435455 .nil)))))) (.op (some 62) (.pick (.t 55) (.c (.bool true)) (.t 61)) 536870911 (.op (some 63) (.m 62) 1073741823 (.grd 63 false (.op (some 64) (.m 3) 2147483647 (.op (some 65) (.bin .eql (.t 64) (.i 7)) 4294967295 (.op (some 66) (.fieldAddr 7 (.t 1)) 2147483647 (.op (some 67) (.load none (.t 66)) 10737418239 (.op (some 68) (.call 126 [(.t 65), (.t 67)]) 34359738367 (.op (some 69) (.un .not (.t 68)) 68719476735 .nil)))))) (.op (some 70) (.pick (.t 63) (.c (.bool true)) (.t 69)) 137438953471 .nil))))))))))))))))))) (.cond (.t 70) (.seq (rf (.o 2 (.move (.c (.bool false))) .nil)) .ret) .skip)) (.seq (.seq (rf (.o 71 (.m 3) (.o 72 (.bin .neq (.t 71) (.i 0)) (.o 73 (.m 72) (.grd 73 true (.o 74 (.fieldAddr 5 (.t 1)) (.o 75 (.load none (.t 74)) (.o 76 (.bin .neq (.t 75) (.i 0)) .nil))) (.o 77 (.pick (.t 73) (.t 76) (.c (.bool false))) (.o 78 (.m 77) (.grd 78 false (.o 79 (.fieldAddr 5 (.t 1)) (.o 80 (.load none (.t 79)) (.o 81 (.bin .lss (.t 80) (.c (.int .i64 (-2147483648)))) .nil))) (.o 82 (.pick (.t 78) (.c (.bool true)) (.t 81)) (.o 83 (.m 82) (.grd 83 false (.o 84 (.fieldAddr 5 (.t 1)) (.o 85 (.load none (.t 84)) (.o 86 (.bin .gtr (.t 85) (.i 2147483647)) .nil))) (.o 87 (.pick (.t 83) (.c (.bool true)) (.t 86)) .nil)))))))))))) (.cond (.t 87) (.seq (rf (.o 2 (.move (.c (.bool false))) .nil)) .ret) .skip)) (.seq (.seq (rf (.o 4 (.move (.i 0)) .nil)) (.block 0 (.loop (.seq (.seq (rf (.o 88 (.m 4) (.o 89 (.bin .lss (.t 88) (.i 3)) .nil))) (.cond (.t 89) .skip (.exit 0))) (.seq (.block 1 (.seq (rt (.o 92 (.m 4) (.o 93 (.fieldAddr 7 (.t 1)) (.op (some 94) (.load none (.t 93)) 2 (.op (some 95) (.bin .lss (.t 92) (.t 94)) 7 (.o 96 (.m 4) (.o 97 (.fieldAddr 8 (.t 1)) (.op (some 98) (.idxAddrA 3 1 (.t 97) (.t 96)) 48 (.op (some 99) (.load none (.t 98)) 112 (.op (some 100) (.call 126 [(.t 95), (.t 99)]) 255 (.op (some 101) (.un .not (.t 100)) 511 .nil))))))))))) (.cond (.t 101) (.seq (rf (.o 2 (.move (.c (.bool false))) .nil)) .ret) .skip))) (rf (.o 90 (.m 4) (.o 91 (.bin .add (.t 90) (.i 1)) (.o 4 (.m 91) .nil))))))))) (.seq (rf (.o 2 (.move (.c (.bool true))) .nil)) .ret))))))), [.tmp 2]⟩
theorem b89 : fnOf Go.Proofs.Tryz.prog (owOf []) 89 = some c89 := by kernel_rfl
def c90 : RFn := ⟨(.seq (rf (.o 2 (.move (.c (.bool false))) .nil)) (.seq (rf (.o 3 (.m 0) (.o 4 (.bin .geq (.t 3) (.i 0)) (.o 5 (.m 4) (.grd 5 true (.o 6 (.m 0) (.o 7 (.bin .leq (.t 6) (.i 7)) .nil)) (.o 8 (.pick (.t 5) (.t 7) (.c (.bool false))) (.o 2 (.m 8) .nil))))))) .ret)), [.tmp 2]⟩
theorem b90 : fnOf Go.Proofs.Tryz.prog (owOf []) 90 = some c90 := by kernel_rfl
def c126 : RFn := ⟨(.seq (rf (.o 4 (.move (.c (.bool false))) .nil)) (.seq (rf (.o 5 (.m 0) (.o 6 (.m 5) (.grd 6 true (.o 7 (.m 1) (.o 8 (.bin .geq (.t 7) (.i 0)) .nil)) (.o 9 (.pick (.t 6) (.t 8) (.c (.bool false))) (.o 10 (.m 9) (.grd 10 false (.o 11 (.m 1) (.o 12 (.bin .eql (.t 11) (.i 0)) .nil)) (.o 13 (.pick (.t 10) (.c (.bool true)) (.t 12)) (.o 4 (.m 13) .nil))))))))) .ret)), [.tmp 4]⟩
theorem b126 : fnOf Go.Proofs.Tryz.prog (owOf []) 126 = some c126 := by kernel_rfl
def c127 : RFn := ⟨(.seq (rf (.o 2 (.move (.c (.bool false))) .nil)) (.seq (rf (.o 3 (.m 0) (.o 4 (.bin .geq (.t 3) (.i 1)) (.o 5 (.m 4) (.grd 5 true (.o 6 (.m 0) (.o 7 (.bin .leq (.t 6) (.i 5)) .nil)) (.o 8 (.pick (.t 5) (.t 7) (.c (.bool false))) (.o 9 (.m 8) (.grd 9 false (.o 10 (.m 0) (.o 11 (.bin .eql (.t 10) (.i 8)) .nil)) (.o 12 (.pick (.t 9) (.c (.bool true)) (.t 11)) (.o 13 (.m 12) (.grd 13 false (.o 14 (.m 0) (.o 15 (.bin .eql (.t 14) (.i 9)) .nil)) (.o 16 (.pick (.t 13) (.c (.bool true)) (.t 15)) (.o 2 (.m 16) .nil))))))))))))) .ret)), [.tmp 2]⟩
theorem b127 : fnOf Go.Proofs.Tryz.prog (owOf []) 127 = some c127 := by kernel_rfl
def c128 : RFn := ⟨(.seq (rf (.o 2 (.move (.c (.bool false))) .nil)) (.seq (rf (.o 3 (.m 0) (.o 4 (.bin .geq (.t 3) (.i 3)) (.o 5 (.m 4) (.grd 5 true (.o 6 (.m 0) (.o 7 (.bin .leq (.t 6) (.i 5)) .nil)) (.o 8 (.pick (.t 5) (.t 7) (.c (.bool false))) (.o 2 (.m 8) .nil))))))) .ret)), [.tmp 2]⟩
theorem b128 : fnOf Go.Proofs.Tryz.prog (owOf []) 128 = some c128 := by kernel_rfl
def c153 : RFn := ⟨(.seq (rf (.o 4 (.move (.c (.lit []))) .nil)) (.seq (.seq (rf (.o 5 (.move (.i 0)) .nil)) (.block 0 (.loop (.seq (.seq (rf (.o 6 (.m 5) (.o 7 (.m 0) (.o 8 (.len false (.t 7)) (.o 9 (.bin .lss (.t 6) (.t 8)) .nil))))) (.cond (.t 9) .skip (.exit 0))) (.seq (.block 1 (.seq (rf (.o 12 (.m 0) (.o 13 (.m 5) (.o 14 (.idxAddr 1 (.t 12) (.t 13)) (.o 15 (.load none (.t 14)) (.o 16 (.m 1) (.o 17 (.bin .eql (.t 15) (.t 16)) .nil))))))) (.cond (.t 17) (.seq (rf (.o 18 (.m 0) (.o 4 (.m 18) .nil))) .ret) .skip))) (rf (.o 10 (.m 5) (.o 11 (.bin .add (.t 10) (.i 1)) (.o 5 (.m 11) .nil))))))))) (.seq (rf (.o 19 (.m 0) (.o 20 (.m 1) (.o 21 (.bslice false 1 1 (.int .i64 0) [(0, (.t 20))]) (.o 22 (.append 1 (.int .i64 0) (.t 19) (.t 21)) (.o 4 (.m 22) .nil)))))) .ret))), [.tmp 4]⟩
theorem b153 : fnOf Go.Proofs.Tryz.prog (owOf [(6, 2)]) 153 = some c153 := by kernel_rfl
end Go.Vm
end
section
/- Walks. -/
set_option maxRecDepth 100000
set_option linter.unusedSimpArgs false
set_option linter.unusedVariables false
namespace Go.Vm
open Go
set_option maxHeartbeats 4000000
section
variable {gl : Nat → Option PV}
theorem p_r5_hasDst (k : Int) : Pure Go.Proofs.Tryz.prog gl 90 [.int .i64 k] (.bool (hD k)) := by
  refine Pure.fn hmix b90 ?_
  repeat' first | (with_reducible first | refine tr_seq ?_ | refine n_nil ?_ | refine seqQ_normal ?_ | refine seqQ_ret ?_ | refine blkQ_ret ?_ | refine tr_ret ?_) | ((with_reducible refine tr_region_f ?_ ?_); kernel_rfl) | exact ⟨rfl, rfl⟩ | ((with_reducible apply n_and); rfl; rfl; intro h) | ((with_reducible apply n_or); rfl; rfl; intro h) | ((with_reducible apply n_val); rfl; rfl) | ((with_reducible apply fnQ_told_ret); rfl) | ((with_reducible apply fnQ_ret_soft); rfl; rfl)
  rfl
theorem p_r5_hasA (k : Int) : Pure Go.Proofs.Tryz.prog gl 127 [.int .i64 k] (.bool (hA k)) := by
  refine Pure.fn hmix b127 ?_
  repeat' first | (with_reducible first | refine tr_seq ?_ | refine n_nil ?_ | refine seqQ_normal ?_ | refine seqQ_ret ?_ | refine blkQ_ret ?_ | refine tr_ret ?_) | ((with_reducible refine tr_region_f ?_ ?_); kernel_rfl) | exact ⟨rfl, rfl⟩ | ((with_reducible apply n_and); rfl; rfl; intro h) | ((with_reducible apply n_or); rfl; rfl; intro h) | ((with_reducible apply n_val); rfl; rfl) | ((with_reducible apply fnQ_told_ret); rfl) | ((with_reducible apply fnQ_ret_soft); rfl; rfl)
  rfl
theorem p_r5_hasB (k : Int) : Pure Go.Proofs.Tryz.prog gl 128 [.int .i64 k] (.bool (hB k)) := by
  refine Pure.fn hmix b128 ?_
  repeat' first | (with_reducible first | refine tr_seq ?_ | refine n_nil ?_ | refine seqQ_normal ?_ | refine seqQ_ret ?_ | refine blkQ_ret ?_ | refine tr_ret ?_) | ((with_reducible refine tr_region_f ?_ ?_); kernel_rfl) | exact ⟨rfl, rfl⟩ | ((with_reducible apply n_and); rfl; rfl; intro h) | ((with_reducible apply n_or); rfl; rfl; intro h) | ((with_reducible apply n_val); rfl; rfl) | ((with_reducible apply fnQ_told_ret); rfl) | ((with_reducible apply fnQ_ret_soft); rfl; rfl)
  rfl
theorem p_r5_none (b : Bool) (n : Int) : Pure Go.Proofs.Tryz.prog gl 126 [.bool b, .int .i64 n] (.bool (none5 b n)) := by
  refine Pure.fn hmix b126 ?_
  repeat' first | (with_reducible first | refine tr_seq ?_ | refine n_nil ?_ | refine seqQ_normal ?_ | refine seqQ_ret ?_ | refine blkQ_ret ?_ | refine tr_ret ?_) | ((with_reducible refine tr_region_f ?_ ?_); kernel_rfl) | exact ⟨rfl, rfl⟩ | ((with_reducible apply n_and); rfl; rfl; intro h) | ((with_reducible apply n_or); rfl; rfl; intro h) | ((with_reducible apply n_val); rfl; rfl) | ((with_reducible apply fnQ_told_ret); rfl) | ((with_reducible apply fnQ_ret_soft); rfl; rfl)
  rfl
theorem p_r5_Form (i : In) : Pure Go.Proofs.Tryz.prog gl 89 [pI i] (.bool (form i)) := by
  refine Pure.fn hmix b89 ?_
  repeat' first | (with_reducible first | refine tr_seq ?_ | refine n_nil ?_ | refine seqQ_normal ?_ | refine seqQ_exit ?_ | refine seqQ_ret ?_ | refine blkQ_normal ?_ | refine blkQ_exit ?_ | refine blkQ_ret ?_ | refine tr_block ?_ | refine tr_skip ?_ | refine tr_exit ?_ | refine tr_ret ?_ | refine condT_t ?_ | refine condT_f ?_ | refine loopV_exit ?_ | refine loopV_ret ?_) | ((with_reducible refine tr_region_f ?_ ?_); kernel_rfl) | ((with_reducible refine tr_region_t ?_ ?_ ?_); kernel_rfl; kernel_rfl) | exact ⟨rfl, rfl⟩ | ((with_reducible refine blkQ_exit_ne ?_ ?_); rfl) | ((with_reducible apply tr_cond_e); rfl) | ((with_reducible refine condT_T ?_ ?_); decide +kernel) | ((with_reducible refine condT_F ?_ ?_); decide +kernel) | ((with_reducible apply n_andF); rfl; rfl; decide +kernel) | ((with_reducible apply n_orT); rfl; rfl; decide +kernel) | ((with_reducible apply n_and); rfl; rfl; intro h) | ((with_reducible apply n_or); rfl; rfl; intro h) | with_reducible refine unrQ_normal ?_ | with_reducible refine unrQ_exit ?_ | with_reducible refine unrQ_ret ?_ | refine tr_unroll 4 ?_ | ((with_reducible apply n_val); rfl; rfl) | ((with_reducible apply n_new); rfl; (first | (simp only [hn0, hn1, hn2, hn3, hn4, hn5, List.length_cons, List.length_nil, Nat.reduceAdd, Nat.zero_add]; first | done | rfl) | rfl); rfl) | ((with_reducible apply n_call (f := 90)); rfl; rfl; exact p_r5_hasDst ..) | ((with_reducible apply n_call (f := 127)); rfl; rfl; exact p_r5_hasA ..) | ((with_reducible apply n_call (f := 128)); rfl; rfl; exact p_r5_hasB ..) | ((with_reducible apply n_call (f := 126)); rfl; rfl; exact p_r5_none ..) | (with_reducible refine condT_split (fun h => ?_) (fun h => ?_)) | ((with_reducible apply fnQ_told_ret); rfl) | ((with_reducible apply fnQ_ret_soft); rfl; rfl)
  all_goals (try simp only [w64_1, w64_2] at *)
  · refine congrArg PV.bool (form_no fun hh => ?_).symm
    simp only [Bool.or_eq_true, decide_eq_true_eq] at h
    omega
  · refine congrArg PV.bool (form_no fun hh => ?_).symm
    obtain ⟨_, ⟨h1, h2, h3, h4, h5⟩, _⟩ := hh
    rw [h1, h2, h3, h4, h5] at h
    cases h
  · refine congrArg PV.bool (form_no fun hh => ?_).symm
    simp only [Bool.or_eq_true, Bool.and_eq_true, bne_iff_ne, ne_eq, decide_eq_true_eq] at h
    omega
  · refine congrArg PV.bool (form_no fun hh => ?_).symm
    rw [hh.2.2.2.1] at h
    cases h
  · refine congrArg PV.bool (form_no fun hh => ?_).symm
    rw [hh.2.2.2.2.1] at h
    cases h
  · refine congrArg PV.bool (form_no fun hh => ?_).symm
    rw [hh.2.2.2.2.2] at h
    cases h
  · refine congrArg PV.bool ((form_iff i).2 ?_).symm
    simp only [Bool.or_eq_false_iff, Bool.and_eq_false_iff, bne_eq_false_iff_eq, Bool.not_eq_false', decide_eq_false_iff_not] at *
    refine ⟨?_, ?_, ?_, ?_⟩
    · omega
    · simp_all
    · omega
    · simp_all
theorem p_r5_Def (i : In) : Pure Go.Proofs.Tryz.prog gl 64 [pI i] (.int .i64 (defI i)) := by
  refine Pure.fn hmix b64 ?_
  repeat' first | (with_reducible first | refine tr_seq ?_ | refine n_nil ?_ | refine seqQ_normal ?_ | refine seqQ_ret ?_ | refine blkQ_ret ?_ | refine tr_skip ?_ | refine tr_ret ?_ | refine condT_t ?_ | refine condT_f ?_) | ((with_reducible refine tr_region_f ?_ ?_); kernel_rfl) | exact ⟨rfl, rfl⟩ | ((with_reducible apply tr_cond_e); rfl) | ((with_reducible apply n_and); rfl; rfl; intro h) | ((with_reducible apply n_or); rfl; rfl; intro h) | ((with_reducible apply n_val); rfl; rfl) | ((with_reducible apply n_new); rfl; (first | (simp only [hn0, hn1, hn2, hn3, hn4, hn5, List.length_cons, List.length_nil, Nat.reduceAdd, Nat.zero_add]; first | done | rfl) | rfl); rfl) | ((with_reducible apply n_call (f := 89)); rfl; rfl; exact p_r5_Form ..) | ((with_reducible apply n_call (f := 90)); rfl; rfl; exact p_r5_hasDst ..) | (with_reducible refine condT_split (fun h => ?_) (fun h => ?_)) | ((with_reducible apply fnQ_told_ret); rfl) | ((with_reducible apply fnQ_ret_soft); rfl; rfl)
  · refine congrArg _ ?_
    rw [defI, if_neg]
    cases h1 : form i <;> cases h2 : hD i.kind <;> simp_all
  · refine congrArg _ ?_
    rw [defI, if_pos]
    cases h1 : form i <;> cases h2 : hD i.kind <;> simp_all
def gA (g : Nat) (l : List Int) (v : Int) : Nat := if l.contains v then g else g + 1
theorem w_ctn {l : List Int} {v : Int} {k : Nat} (h : k < l.length) (e : l.getD k 0 = v) : l.contains v = true := by
  rw [List.contains_iff_mem, ← e, List.getD_eq_getElem?_getD, List.getElem?_eq_getElem h, Option.getD_some]
  exact List.getElem_mem h
theorem w_nct {l : List Int} {v : Int} (h : ∀ j, j < l.length → l.getD j 0 ≠ v) : l.contains v = false := by
  rw [Bool.eq_false_iff]
  intro hc
  rw [List.contains_iff_mem] at hc
  obtain ⟨j, hj, e⟩ := List.mem_iff_getElem.1 hc
  apply h j hj
  rw [List.getD_eq_getElem?_getD, List.getElem?_eq_getElem hj, Option.getD_some, e]
theorem h_add0 (v : Int) (i0 : In) : HSpec Go.Proofs.Tryz.prog gl 153 [.lit [], .int .i64 v] (Hp.ofL [some ⟨0, 11, [pI i0]⟩]) (fun r G => r = .ref 1 0 0 1 ∧ G = Hp.ofL [some ⟨0, 11, [pI i0]⟩, some ⟨0, 1, [v].map pint⟩]) := by
  refine HSpec.fnL (Nat.le_of_ble_eq_true rfl) hmix b153 ?_
  change Tr _ _ 1 _ _ _ _
  repeat' first | (with_reducible first | refine tr_seq ?_ | refine n_nil ?_ | refine seqQ_normal ?_ | refine seqQ_exit ?_ | refine seqQ_ret ?_ | refine blkQ_normal ?_ | refine blkQ_exit ?_ | refine blkQ_ret ?_ | refine tr_block ?_ | refine tr_skip ?_ | refine tr_exit ?_ | refine tr_ret ?_ | refine condT_t ?_ | refine condT_f ?_ | refine loopV_exit ?_ | refine loopV_ret ?_) | ((with_reducible refine tr_region_f ?_ ?_); kernel_rfl) | ((with_reducible refine blkQ_exit_ne ?_ ?_); rfl) | ((with_reducible apply tr_cond_e); rfl) | ((with_reducible refine condT_T ?_ ?_); exact rfl) | ((with_reducible refine condT_F ?_ ?_); exact rfl) | ((with_reducible refine condT_T ?_ ?_); decide +kernel) | ((with_reducible refine condT_F ?_ ?_); decide +kernel) | ((with_reducible apply n_andF); rfl; rfl; decide +kernel) | ((with_reducible apply n_orT); rfl; rfl; decide +kernel) | with_reducible refine unrQ_normal ?_ | with_reducible refine unrQ_exit ?_ | with_reducible refine unrQ_ret ?_ | refine tr_unroll 1 ?_ | ((with_reducible apply n_val); rfl; rfl) | ((with_reducible apply n_append); rfl; rfl; rfl; rfl; rfl; rfl; (first | decide | (simp only [List.length_append, List.length_cons, List.length_nil, List.length_set, List.length_replicate, ints_length] at *; omega)); rfl) | ((with_reducible apply n_append_lit); rfl; rfl; rfl; rfl; rfl; (first | decide | (simp only [List.length_append, List.length_cons, List.length_nil, List.length_set, List.length_replicate, ints_length] at *; omega)); (first | (simp only [hn0, hn1, hn2, hn3, hn4, hn5, List.length_cons, List.length_nil, Nat.reduceAdd, Nat.zero_add]; first | done | rfl) | rfl); rfl) | (with_reducible refine condT_split (fun h => ?_) (fun h => ?_)) | ((with_reducible apply fnQ_told_ret); rfl) | ((with_reducible apply fnQ_ret_soft); rfl; rfl) | ((with_reducible apply fnQ_ret_row); rfl; rfl; rfl)
  · rfl
  · exact ⟨⟨_, rfl, rfl, rfl, rfl⟩, ⟨_, rfl, rfl, rfl, rfl⟩, trivial⟩
theorem h_add1 (l : List Int) (hl : l.length ≤ 1000) (g : Nat) (v : Int) (i0 : In) : HSpec Go.Proofs.Tryz.prog gl 153 [.ref 1 g 0 l.length, .int .i64 v] (Hp.ofL [some ⟨0, 11, [pI i0]⟩, some ⟨g, 1, l.map pint⟩]) (fun r G => r = .ref 1 (gA g l v) 0 (dd l v).length ∧ G = Hp.ofL [some ⟨0, 11, [pI i0]⟩, some ⟨gA g l v, 1, (dd l v).map pint⟩]) := by
  refine HSpec.fnL (Nat.le_refl _) hmix b153 ?_
  change Tr _ _ 2 _ _ _ _
  repeat' first | (with_reducible first | refine tr_seq ?_ | refine n_nil ?_ | refine seqQ_normal ?_ | refine seqQ_exit ?_ | refine seqQ_ret ?_ | refine blkQ_normal ?_ | refine blkQ_exit ?_ | refine blkQ_ret ?_ | refine tr_block ?_ | refine tr_skip ?_ | refine tr_exit ?_ | refine tr_ret ?_ | refine condT_t ?_ | refine condT_f ?_ | refine loopV_exit ?_ | refine loopV_ret ?_) | ((with_reducible refine tr_region_f ?_ ?_); kernel_rfl) | ((with_reducible refine blkQ_exit_ne ?_ ?_); rfl) | ((with_reducible apply tr_cond_e); rfl) | ((with_reducible apply n_idx_own); rfl; rfl; rfl; (first | omega | decide | (simp only [zz, tab_length] at *; omega))) | ((with_reducible apply n_load_vals (f := pint) (0 : Int)); rfl; rfl; rfl; (first | omega | decide | (simp only [zz, tab_length] at *; omega))) | ((with_reducible apply n_append_valsL (f := pint) v); rfl; rfl; rfl; rfl; rfl; rfl; (omega); rfl) | (first | ((with_reducible apply n_bin); rfl; rfl; focus ((with_reducible (first | apply b_add | apply b_sub)) <;> first | omega | decide | (simp only [zz, tab_length] at *; omega))) | ((with_reducible apply n_max); rfl; rfl) | ((with_reducible apply n_min); rfl; rfl)) | (refine tr_loop_v (α := Nat) 2 (fun | k => [(5, some (.int .i64 (k : Int))), (6, none), (7, none), (8, none), (9, none), (12, none), (13, none), (14, none), (15, none), (16, none), (17, none), (18, none), (4, none), (10, none), (11, none)]) (fun | k => [some ⟨0, 11, [pI i0]⟩, some ⟨g, 1, l.map pint⟩]) (fun | k => k ≤ l.length ∧ ∀ j, j < k → l.getD j 0 ≠ v) (fun | k => l.length - k) (0) (ks := [5, 6, 7, 8, 9, 12, 13, 14, 15, 16, 17, 18, 4, 10, 11]) (fun _ => rfl) (fun _ => rfl) rfl (by omega) ?_ ⟨⟨_, rfl, rfl⟩, trivial⟩ ⟨⟨_, rfl, rfl, rfl, rfl⟩, ⟨_, rfl, rfl, rfl, (by first | exact fzP_vals (fun _ => rfl) rfl |  rfl | exact fzP_pure (ints_pure _) | exact fzP_pure (u64s_pure _) | exact fzP_pure (by assumption) | exact fzP_pure (by first | (simp [pureE, pure1, ints]; done) | (simp_all [pe_int, pe_bool, pe_str, pe_sl, pe_agg, p1_int, p1_bool, p1_str, p1_sl]; done)))⟩, trivial⟩ ?_; rotate_left; rintro k hx; try dsimp only at hx) | ((first | (refine loopV_normal (k + 1) ?_ ⟨⟨_, rfl, rfl⟩, trivial⟩ ⟨⟨_, rfl, rfl, rfl, rfl⟩, ⟨_, rfl, rfl, rfl, (by first | exact fzP_vals (fun _ => rfl) rfl |  rfl | exact fzP_pure (ints_pure _) | exact fzP_pure (u64s_pure _) | exact fzP_pure (by assumption) | exact fzP_pure (by first | (simp [pureE, pure1, ints]; done) | (simp_all [pe_int, pe_bool, pe_str, pe_sl, pe_agg, p1_int, p1_bool, p1_str, p1_sl]; done)))⟩, trivial⟩ ?_ ?_)); repeat (first | exact only_refl | refine only_put rfl ?_ | refine only_less rfl ?_ | refine only_ov rfl ?_)) | ((with_reducible apply n_val); rfl; rfl) | ((with_reducible apply n_append); rfl; rfl; rfl; rfl; rfl; rfl; (first | decide | (simp only [List.length_append, List.length_cons, List.length_nil, List.length_set, List.length_replicate, ints_length] at *; omega)); rfl) | ((with_reducible apply n_append_lit); rfl; rfl; rfl; rfl; rfl; (first | decide | (simp only [List.length_append, List.length_cons, List.length_nil, List.length_set, List.length_replicate, ints_length] at *; omega)); (first | (simp only [hn0, hn1, hn2, hn3, hn4, hn5, List.length_cons, List.length_nil, Nat.reduceAdd, Nat.zero_add]; first | done | rfl) | rfl); rfl) | (with_reducible refine condT_split (fun h => ?_) (fun h => ?_)) | ((with_reducible apply fnQ_told_ret); rfl) | ((with_reducible apply fnQ_ret_soft); rfl; rfl) | ((with_reducible apply fnQ_ret_row); rfl; rfl; rfl)
  all_goals (try dsimp only at *)
  · have hh := h
    simp only [decide_eq_true_eq] at *
    have e := w_ctn (l := l) (v := v) (k := k) (by omega) (by simpa using hh)
    rw [gA, if_pos e, dd_t e]
    rfl
  · have hh := h
    simp only [decide_eq_true_eq] at *
    have e := w_ctn (l := l) (v := v) (k := k) (by omega) (by simpa using hh)
    rw [gA, if_pos e, dd_t e]
    exact ⟨⟨_, rfl, rfl, rfl, rfl⟩, ⟨_, rfl, rfl, rfl, fzP_vals (fun _ => rfl) rfl⟩, trivial⟩
  · simp only [decide_eq_true_eq] at *
    omega
  · have hh := h
    simp only [decide_eq_true_eq] at *
    refine ⟨by omega, fun j hj => ?_⟩
    by_cases e : j = k
    · subst e
      simpa using hh
    · exact hx.2 j (by omega)
  · have e := w_nct (l := l) (v := v) fun j hj => hx.2 j (by simp only [decide_eq_false_iff_not] at h; omega)
    rw [gA, if_neg (by rw [e]; simp), dd_f e]
    rfl
  · have e := w_nct (l := l) (v := v) fun j hj => hx.2 j (by simp only [decide_eq_false_iff_not] at h; omega)
    rw [gA, if_neg (by rw [e]; simp), dd_f e]
    exact ⟨⟨_, rfl, rfl, rfl, rfl⟩, ⟨_, rfl, rfl, rfl, fzP_vals (fun _ => rfl) rfl⟩, trivial⟩
  · exact ⟨by omega, fun j hj => absurd hj (by omega)⟩
theorem h_add2 (l : List Int) (hl : l.length ≤ 1000) (g : Nat) (v : Int) (i0 : In) : HSpec Go.Proofs.Tryz.prog gl 153 [.ref 2 g 0 l.length, .int .i64 v] (Hp.ofL [some ⟨0, 11, [pI i0]⟩, none, some ⟨g, 1, l.map pint⟩]) (fun r G => r = .ref 2 (gA g l v) 0 (dd l v).length ∧ G = Hp.ofL [some ⟨0, 11, [pI i0]⟩, none, some ⟨gA g l v, 1, (dd l v).map pint⟩]) := by
  refine HSpec.fnL (Nat.le_refl _) hmix b153 ?_
  change Tr _ _ 3 _ _ _ _
  repeat' first | (with_reducible first | refine tr_seq ?_ | refine n_nil ?_ | refine seqQ_normal ?_ | refine seqQ_exit ?_ | refine seqQ_ret ?_ | refine blkQ_normal ?_ | refine blkQ_exit ?_ | refine blkQ_ret ?_ | refine tr_block ?_ | refine tr_skip ?_ | refine tr_exit ?_ | refine tr_ret ?_ | refine condT_t ?_ | refine condT_f ?_ | refine loopV_exit ?_ | refine loopV_ret ?_) | ((with_reducible refine tr_region_f ?_ ?_); kernel_rfl) | ((with_reducible refine blkQ_exit_ne ?_ ?_); rfl) | ((with_reducible apply tr_cond_e); rfl) | ((with_reducible apply n_idx_own); rfl; rfl; rfl; (first | omega | decide | (simp only [zz, tab_length] at *; omega))) | ((with_reducible apply n_load_vals (f := pint) (0 : Int)); rfl; rfl; rfl; (first | omega | decide | (simp only [zz, tab_length] at *; omega))) | ((with_reducible apply n_append_valsL (f := pint) v); rfl; rfl; rfl; rfl; rfl; rfl; (omega); rfl) | (first | ((with_reducible apply n_bin); rfl; rfl; focus ((with_reducible (first | apply b_add | apply b_sub)) <;> first | omega | decide | (simp only [zz, tab_length] at *; omega))) | ((with_reducible apply n_max); rfl; rfl) | ((with_reducible apply n_min); rfl; rfl)) | (refine tr_loop_v (α := Nat) 3 (fun | k => [(5, some (.int .i64 (k : Int))), (6, none), (7, none), (8, none), (9, none), (12, none), (13, none), (14, none), (15, none), (16, none), (17, none), (18, none), (4, none), (10, none), (11, none)]) (fun | k => [some ⟨0, 11, [pI i0]⟩, none, some ⟨g, 1, l.map pint⟩]) (fun | k => k ≤ l.length ∧ ∀ j, j < k → l.getD j 0 ≠ v) (fun | k => l.length - k) (0) (ks := [5, 6, 7, 8, 9, 12, 13, 14, 15, 16, 17, 18, 4, 10, 11]) (fun _ => rfl) (fun _ => rfl) rfl (by omega) ?_ ⟨⟨_, rfl, rfl⟩, trivial⟩ ⟨⟨_, rfl, rfl, rfl, rfl⟩, ⟨_, rfl, rfl, rfl, (by first | exact fzP_vals (fun _ => rfl) rfl |  rfl | exact fzP_pure (ints_pure _) | exact fzP_pure (u64s_pure _) | exact fzP_pure (by assumption) | exact fzP_pure (by first | (simp [pureE, pure1, ints]; done) | (simp_all [pe_int, pe_bool, pe_str, pe_sl, pe_agg, p1_int, p1_bool, p1_str, p1_sl]; done)))⟩, trivial⟩ ?_; rotate_left; rintro k hx; try dsimp only at hx) | ((first | (refine loopV_normal (k + 1) ?_ ⟨⟨_, rfl, rfl⟩, trivial⟩ ⟨⟨_, rfl, rfl, rfl, rfl⟩, ⟨_, rfl, rfl, rfl, (by first | exact fzP_vals (fun _ => rfl) rfl |  rfl | exact fzP_pure (ints_pure _) | exact fzP_pure (u64s_pure _) | exact fzP_pure (by assumption) | exact fzP_pure (by first | (simp [pureE, pure1, ints]; done) | (simp_all [pe_int, pe_bool, pe_str, pe_sl, pe_agg, p1_int, p1_bool, p1_str, p1_sl]; done)))⟩, trivial⟩ ?_ ?_)); repeat (first | exact only_refl | refine only_put rfl ?_ | refine only_less rfl ?_ | refine only_ov rfl ?_)) | ((with_reducible apply n_val); rfl; rfl) | ((with_reducible apply n_append); rfl; rfl; rfl; rfl; rfl; rfl; (first | decide | (simp only [List.length_append, List.length_cons, List.length_nil, List.length_set, List.length_replicate, ints_length] at *; omega)); rfl) | ((with_reducible apply n_append_lit); rfl; rfl; rfl; rfl; rfl; (first | decide | (simp only [List.length_append, List.length_cons, List.length_nil, List.length_set, List.length_replicate, ints_length] at *; omega)); (first | (simp only [hn0, hn1, hn2, hn3, hn4, hn5, List.length_cons, List.length_nil, Nat.reduceAdd, Nat.zero_add]; first | done | rfl) | rfl); rfl) | (with_reducible refine condT_split (fun h => ?_) (fun h => ?_)) | ((with_reducible apply fnQ_told_ret); rfl) | ((with_reducible apply fnQ_ret_soft); rfl; rfl) | ((with_reducible apply fnQ_ret_row); rfl; rfl; rfl)
  all_goals (try dsimp only at *)
  · have hh := h
    simp only [decide_eq_true_eq] at *
    have e := w_ctn (l := l) (v := v) (k := k) (by omega) (by simpa using hh)
    rw [gA, if_pos e, dd_t e]
    rfl
  · have hh := h
    simp only [decide_eq_true_eq] at *
    have e := w_ctn (l := l) (v := v) (k := k) (by omega) (by simpa using hh)
    rw [gA, if_pos e, dd_t e]
    exact ⟨⟨_, rfl, rfl, rfl, rfl⟩, ⟨_, rfl, rfl, rfl, fzP_vals (fun _ => rfl) rfl⟩, trivial⟩
  · simp only [decide_eq_true_eq] at *
    omega
  · have hh := h
    simp only [decide_eq_true_eq] at *
    refine ⟨by omega, fun j hj => ?_⟩
    by_cases e : j = k
    · subst e
      simpa using hh
    · exact hx.2 j (by omega)
  · have e := w_nct (l := l) (v := v) fun j hj => hx.2 j (by simp only [decide_eq_false_iff_not] at h; omega)
    rw [gA, if_neg (by rw [e]; simp), dd_f e]
    rfl
  · have e := w_nct (l := l) (v := v) fun j hj => hx.2 j (by simp only [decide_eq_false_iff_not] at h; omega)
    rw [gA, if_neg (by rw [e]; simp), dd_f e]
    exact ⟨⟨_, rfl, rfl, rfl, rfl⟩, ⟨_, rfl, rfl, rfl, fzP_vals (fun _ => rfl) rfl⟩, trivial⟩
  · exact ⟨by omega, fun j hj => absurd hj (by omega)⟩
end
end Go.Vm
end
