/- Laid. -/
import Derived.Test.YtlcbceneacnaiaaDoorVmThree
import Derived.KernelRfl
import Derived.Test.YtlcbceneacnaiaaDoorProg
import Derived.Test.YtlcbceneacnaiaaDoorXinstrF
import Derived.Test.YtlcbceneacnaiaaDoorLBitsAll
section
/- Code. -/
set_option maxRecDepth 100000
set_option linter.unusedSimpArgs false
set_option linter.unusedVariables false
namespace Go.Vm
open Go

/-- bywash/bits.Sane -/
def c9 : RFn := ⟨(.seq (.region (Nodes.flat none (.op (some 1) (.box (.t 0)) 0
  (.op (some 2) (.move (.c (.bool false))) 0
  .nil))) false)
 (.seq (.seq (.region (Nodes.flat none (.op (some 4) (.fieldAddr 0 (.t 1)) 0
  (.op (some 5) (.load none (.t 4)) 1
  (.op (some 6) (.bin .lss (.t 5) (.c (.int .i64 0))) 3
  (.op (some 7) (.move (.t 6)) 7
  (.grd 7 false
  (.op (some 8) (.fieldAddr 0 (.t 1)) 15
  (.op (some 9) (.load none (.t 8)) 31
  (.op (some 10) (.bin .gtr (.t 9) (.c (.int .i64 1024))) 63
  .nil)))
  (.op (some 11) (.pick (.t 7) (.c (.bool true)) (.t 10)) 127
  (.op (some 12) (.move (.t 11)) 255
  (.grd 12 false
  (.op (some 13) (.fieldAddr 1 (.t 1)) 511
  (.op (some 14) (.load none (.t 13)) 1023
  (.op (some 15) (.len false (.t 14)) 2047
  (.op (some 16) (.fieldAddr 0 (.t 1)) 511
  (.op (some 17) (.load none (.t 16)) 4607
  (.op (some 18) (.call 30 [(.t 17)]) 12799
  (.op (some 19) (.bin .neq (.t 15) (.t 18)) 32767
  .nil)))))))
  (.op (some 20) (.pick (.t 12) (.c (.bool true)) (.t 19)) 65535
  .nil)))))))))) true)
 (.cond (.t 20)
 (.seq (.region (Nodes.flat none (.op (some 2) (.move (.c (.bool false))) 0
  .nil)) false)
 .ret)
 .skip))
 (.seq (.region (Nodes.flat none (.op (some 21) (.fieldAddr 0 (.t 1)) 0
  (.op (some 22) (.load none (.t 21)) 0
  (.op (some 23) (.bin .rem (.t 22) (.c (.int .i64 64))) 0
  (.op (some 3) (.move (.t 23)) 0
  .nil))))) false)
 (.seq (.region (Nodes.flat none (.op (some 24) (.move (.t 3)) 0
  (.op (some 25) (.bin .eql (.t 24) (.c (.int .i64 0))) 0
  (.op (some 26) (.move (.t 25)) 0
  (.grd 26 false
  (.op (some 27) (.fieldAddr 1 (.t 1)) 0
  (.op (some 28) (.load none (.t 27)) 0
  (.op (some 29) (.fieldAddr 1 (.t 1)) 0
  (.op (some 30) (.load none (.t 29)) 0
  (.op (some 31) (.len false (.t 30)) 0
  (.op (some 32) (.bin .sub (.t 31) (.c (.int .i64 1))) 0
  (.op (some 33) (.idxAddr 1 (.t 28) (.t 32)) 0
  (.op (some 34) (.load none (.t 33)) 0
  (.op (some 35) (.move (.t 3)) 0
  (.op (some 36) (.conv .u64 (.t 35)) 0
  (.op (some 37) (.bin .shr (.t 34) (.t 36)) 0
  (.op (some 38) (.bin .eql (.t 37) (.c (.int .u64 0))) 0
  .nil))))))))))))
  (.op (some 39) (.pick (.t 26) (.c (.bool true)) (.t 38)) 0
  (.op (some 2) (.move (.t 39)) 0
  .nil))))))) false)
 .ret)))),
 [.tmp 2]⟩
theorem b9 : fnOf Go.Proofs.Tryd.prog (owOf []) 9 = some c9 := by kernel_rfl

/-- bywash/bits.Has -/
def c12 : RFn := ⟨(.seq (.region (Nodes.flat none (.op (some 2) (.box (.t 0)) 0
  (.op (some 4) (.move (.c (.bool false))) 0
  .nil))) false)
 (.seq (.seq (.region (Nodes.flat none (.op (some 7) (.load (some 2) (.t 2)) 0
  (.op (some 8) (.call 9 [(.t 7)]) 0
  (.op (some 9) (.un .not (.t 8)) 0
  (.op (some 10) (.move (.t 9)) 0
  (.grd 10 false
  (.op (some 11) (.load (some 2) (.t 2)) 0
  (.op (some 12) (.move (.t 1)) 0
  (.op (some 13) (.call 35 [(.t 11), (.t 12)]) 0
  (.op (some 14) (.un .not (.t 13)) 0
  .nil))))
  (.op (some 15) (.pick (.t 10) (.c (.bool true)) (.t 14)) 0
  .nil))))))) false)
 (.cond (.t 15)
 (.seq (.region (Nodes.flat none (.op (some 4) (.move (.c (.bool false))) 0
  .nil)) false)
 .ret)
 .skip))
 (.seq (.region (Nodes.flat none (.op (some 17) (.move (.t 1)) 0
  (.op (some 18) (.call 36 [(.t 17)]) 0
  (.op (some 16) (.move (.t 18)) 0
  (.op (some 19) (.extract 0 (.t 16)) 0
  (.op (some 20) (.extract 1 (.t 16)) 0
  (.op (some 5) (.move (.t 19)) 0
  (.op (some 6) (.move (.t 20)) 0
  .nil)))))))) false)
 (.seq (.region (Nodes.flat none (.op (some 21) (.fieldAddr 1 (.t 2)) 0
  (.op (some 22) (.load none (.t 21)) 0
  (.op (some 23) (.move (.t 5)) 0
  (.op (some 24) (.idxAddr 1 (.t 22) (.t 23)) 0
  (.op (some 25) (.load none (.t 24)) 0
  (.op (some 26) (.move (.t 6)) 0
  (.op (some 27) (.bin .and (.t 25) (.t 26)) 0
  (.op (some 28) (.bin .neq (.t 27) (.c (.int .u64 0))) 0
  (.op (some 4) (.move (.t 28)) 0
  .nil)))))))))) false)
 .ret)))),
 [.tmp 4]⟩
theorem b12 : fnOf Go.Proofs.Tryd.prog (owOf []) 12 = some c12 := by kernel_rfl

/-- bywash/bits.words -/
def c30 : RFn := ⟨(.seq (.region (Nodes.flat none (.op (some 2) (.move (.c (.int .i64 0))) 0
  .nil)) false)
 (.seq (.region (Nodes.flat none (.op (some 3) (.move (.t 0)) 0
  (.op (some 4) (.bin .add (.t 3) (.c (.int .i64 64))) 0
  (.op (some 5) (.bin .sub (.t 4) (.c (.int .i64 1))) 0
  (.op (some 6) (.bin .quo (.t 5) (.c (.int .i64 64))) 0
  (.op (some 2) (.move (.t 6)) 0
  .nil)))))) false)
 .ret)),
 [.tmp 2]⟩
theorem b30 : fnOf Go.Proofs.Tryd.prog (owOf []) 30 = some c30 := by kernel_rfl

/-- bywash/bits.Without -/
def c31 : RFn := ⟨(.seq (.region (Nodes.flat none (.op (some 2) (.box (.t 0)) 0
  (.op (some 4) (.alloc (.agg [(.int .i64 0), (.lit [])])) 0
  .nil))) false)
 (.seq (.region (Nodes.flat none (.op (some 8) (.load (some 2) (.t 2)) 0
  (.op (some 9) (.load (some 2) (.t 2)) 0
  (.op (some 10) (.call 37 [(.t 9)]) 2
  (.op (some 11) (.field 0 none (.t 10)) 6
  (.op (some 12) (.call 57 [(.t 8), (.t 11)]) 15
  (.op (some 5) (.alloc (.agg [(.int .i64 0), (.lit [])])) 0
  (.op none (.store 2 (.t 5) (.t 12)) 63
  .nil)))))))) true)
 (.seq (.seq (.region (Nodes.flat none (.op (some 13) (.load (some 2) (.t 5)) 0
  (.op (some 14) (.move (.t 1)) 0
  (.op (some 15) (.call 35 [(.t 13), (.t 14)]) 0
  .nil)))) false)
 (.cond (.t 15)
 (.seq (.region (Nodes.flat none (.op (some 17) (.move (.t 1)) 0
  (.op (some 18) (.call 36 [(.t 17)]) 0
  (.op (some 16) (.move (.t 18)) 0
  (.op (some 19) (.extract 0 (.t 16)) 0
  (.op (some 20) (.extract 1 (.t 16)) 0
  (.op (some 6) (.move (.t 19)) 0
  (.op (some 7) (.move (.t 20)) 0
  .nil)))))))) false)
 (.region (Nodes.flat none (.op (some 21) (.fieldAddr 1 (.t 5)) 0
  (.op (some 22) (.load none (.t 21)) 0
  (.op (some 23) (.move (.t 6)) 0
  (.op (some 24) (.idxAddr 1 (.t 22) (.t 23)) 0
  (.op (some 25) (.load none (.t 24)) 0
  (.op (some 26) (.move (.t 7)) 0
  (.op (some 27) (.bin .andNot (.t 25) (.t 26)) 0
  (.op (some 28) (.idxAddr 1 (.t 22) (.t 23)) 0
  (.op none (.store 1 (.t 28) (.t 27)) 0
  .nil)))))))))) false))
 .skip))
 (.seq (.region (Nodes.flat none (.op (some 29) (.load (some 2) (.t 5)) 0
  (.op none (.store 2 (.t 4) (.t 29)) 0
  .nil))) false)
 .ret)))),
 [.cell (some 2) 4]⟩
theorem b31 : fnOf Go.Proofs.Tryd.prog (owOf []) 31 = some c31 := by kernel_rfl

/-- bywash/bits.is -/
def c35 : RFn := ⟨(.seq (.region (Nodes.flat none (.op (some 2) (.box (.t 0)) 0
  (.op (some 4) (.move (.c (.bool false))) 0
  .nil))) false)
 (.seq (.region (Nodes.flat none (.op (some 5) (.move (.t 1)) 0
  (.op (some 6) (.bin .geq (.t 5) (.c (.int .i64 0))) 0
  (.op (some 7) (.move (.t 6)) 0
  (.grd 7 true
  (.op (some 8) (.move (.t 1)) 0
  (.op (some 9) (.fieldAddr 0 (.t 2)) 0
  (.op (some 10) (.load none (.t 9)) 0
  (.op (some 11) (.bin .lss (.t 8) (.t 10)) 0
  .nil))))
  (.op (some 12) (.pick (.t 7) (.t 11) (.c (.bool false))) 0
  (.op (some 4) (.move (.t 12)) 0
  .nil))))))) false)
 .ret)),
 [.tmp 4]⟩
theorem b35 : fnOf Go.Proofs.Tryd.prog (owOf []) 35 = some c35 := by kernel_rfl

/-- bywash/bits.at -/
def c36 : RFn := ⟨(.seq (.region (Nodes.flat none (.op (some 2) (.move (.c (.int .i64 0))) 0
  (.op (some 3) (.move (.c (.int .u64 0))) 0
  .nil))) false)
 (.seq (.region (Nodes.flat none (.op (some 4) (.move (.t 0)) 0
  (.op (some 5) (.bin .quo (.t 4) (.c (.int .i64 64))) 0
  (.op (some 6) (.move (.t 0)) 0
  (.op (some 7) (.bin .rem (.t 6) (.c (.int .i64 64))) 0
  (.op (some 8) (.conv .u64 (.t 7)) 0
  (.op (some 9) (.bin .shl (.c (.int .u64 1)) (.t 8)) 0
  (.op (some 2) (.move (.t 5)) 0
  (.op (some 3) (.move (.t 9)) 0
  .nil))))))))) false)
 .ret)),
 [.tmp 2, .tmp 3]⟩
theorem b36 : fnOf Go.Proofs.Tryd.prog (owOf []) 36 = some c36 := by kernel_rfl

/-- bywash/bits.sane -/
def c37 : RFn := ⟨(.seq (.region (Nodes.flat none (.op (some 1) (.box (.t 0)) 0
  (.op (some 2) (.alloc (.agg [(.int .i64 0), (.lit [])])) 0
  .nil))) false)
 (.seq (.seq (.region (Nodes.flat none (.op (some 3) (.load (some 2) (.t 1)) 0
  (.op (some 4) (.call 9 [(.t 3)]) 0
  (.op (some 5) (.un .not (.t 4)) 0
  .nil)))) false)
 (.cond (.t 5)
 (.seq (.region (Nodes.flat none (.op (some 6) (.call 39 [(.c (.int .i64 0))]) 0
  (.op none (.store 2 (.t 2) (.t 6)) 0
  .nil))) false)
 .ret)
 .skip))
 (.seq (.region (Nodes.flat none (.op (some 7) (.load (some 2) (.t 1)) 0
  (.op none (.store 2 (.t 2) (.t 7)) 0
  .nil))) false)
 .ret))),
 [.cell (some 2) 2]⟩
theorem b37 : fnOf Go.Proofs.Tryd.prog (owOf []) 37 = some c37 := by kernel_rfl

/-- bywash/bits.New -/
def c39 : RFn := ⟨(.seq (.region (Nodes.flat none (.op (some 2) (.alloc (.agg [(.int .i64 0), (.lit [])])) 0
  .nil)) false)
 (.seq (.region (Nodes.flat none (.op (some 3) (.move (.t 0)) 0
  (.op (some 4) (.mm false (.t 3) [(.c (.int .i64 1024))]) 0
  (.op (some 5) (.mm true (.c (.int .i64 0)) [(.t 4)]) 0
  (.op (some 0) (.move (.t 5)) 0
  .nil))))) false)
 (.seq (.region (Nodes.flat none (.op (some 6) (.move (.t 0)) 0
  (.op (some 7) (.move (.t 0)) 0
  (.op (some 8) (.call 30 [(.t 7)]) 0
  (.op (some 9) (.mkslice 1 (.int .u64 0) (.t 8)) 0
  (.op (some 10) (.build [(.int .i64 0), (.lit [])] [(0, 1, (.t 6)), (1, 1, (.t 9))]) 0
  (.op none (.store 2 (.t 2) (.t 10)) 0
  .nil))))))) false)
 .ret))),
 [.cell (some 2) 2]⟩
theorem b39 : fnOf Go.Proofs.Tryd.prog (owOf []) 39 = some c39 := by kernel_rfl

/-- bywash/bits.With -/
def c40 : RFn := ⟨(.seq (.region (Nodes.flat none (.op (some 2) (.box (.t 0)) 0
  (.op (some 4) (.alloc (.agg [(.int .i64 0), (.lit [])])) 0
  .nil))) false)
 (.seq (.region (Nodes.flat none (.op (some 8) (.load (some 2) (.t 2)) 0
  (.op (some 9) (.load (some 2) (.t 2)) 0
  (.op (some 10) (.call 37 [(.t 9)]) 2
  (.op (some 11) (.field 0 none (.t 10)) 6
  (.op (some 12) (.call 57 [(.t 8), (.t 11)]) 15
  (.op (some 5) (.alloc (.agg [(.int .i64 0), (.lit [])])) 0
  (.op none (.store 2 (.t 5) (.t 12)) 63
  .nil)))))))) true)
 (.seq (.seq (.region (Nodes.flat none (.op (some 13) (.load (some 2) (.t 5)) 0
  (.op (some 14) (.move (.t 1)) 0
  (.op (some 15) (.call 35 [(.t 13), (.t 14)]) 0
  .nil)))) false)
 (.cond (.t 15)
 (.seq (.region (Nodes.flat none (.op (some 17) (.move (.t 1)) 0
  (.op (some 18) (.call 36 [(.t 17)]) 0
  (.op (some 16) (.move (.t 18)) 0
  (.op (some 19) (.extract 0 (.t 16)) 0
  (.op (some 20) (.extract 1 (.t 16)) 0
  (.op (some 6) (.move (.t 19)) 0
  (.op (some 7) (.move (.t 20)) 0
  .nil)))))))) false)
 (.region (Nodes.flat none (.op (some 21) (.fieldAddr 1 (.t 5)) 0
  (.op (some 22) (.load none (.t 21)) 0
  (.op (some 23) (.move (.t 6)) 0
  (.op (some 24) (.idxAddr 1 (.t 22) (.t 23)) 0
  (.op (some 25) (.load none (.t 24)) 0
  (.op (some 26) (.move (.t 7)) 0
  (.op (some 27) (.bin .or (.t 25) (.t 26)) 0
  (.op (some 28) (.idxAddr 1 (.t 22) (.t 23)) 0
  (.op none (.store 1 (.t 28) (.t 27)) 0
  .nil)))))))))) false))
 .skip))
 (.seq (.region (Nodes.flat none (.op (some 29) (.load (some 2) (.t 5)) 0
  (.op none (.store 2 (.t 4) (.t 29)) 0
  .nil))) false)
 .ret)))),
 [.cell (some 2) 4]⟩
theorem b40 : fnOf Go.Proofs.Tryd.prog (owOf []) 40 = some c40 := by kernel_rfl

/-- bywash/bits.own -/
def c57 : RFn := ⟨(.seq (.region (Nodes.flat none (.op (some 2) (.box (.t 0)) 0
  (.op (some 4) (.alloc (.agg [(.int .i64 0), (.lit [])])) 0
  .nil))) false)
 (.seq (.region (Nodes.flat none (.op (some 6) (.move (.t 1)) 0
  (.op (some 7) (.call 39 [(.t 6)]) 0
  (.op (some 5) (.alloc (.agg [(.int .i64 0), (.lit [])])) 0
  (.op none (.store 2 (.t 5) (.t 7)) 0
  .nil))))) false)
 (.seq (.region (Nodes.flat none (.op (some 8) (.fieldAddr 1 (.t 5)) 0
  (.op (some 9) (.load none (.t 8)) 1
  (.op (some 10) (.load (some 2) (.t 2)) 0
  (.op (some 11) (.call 37 [(.t 10)]) 4
  (.op (some 12) (.field 1 none (.t 11)) 12
  (.op (some 13) (.copy 1 (.t 9) (.t 12)) 31
  .nil))))))) true)
 (.seq (.region (Nodes.flat none (.op (some 14) (.load (some 2) (.t 5)) 0
  (.op none (.store 2 (.t 4) (.t 14)) 0
  .nil))) false)
 .ret)))),
 [.cell (some 2) 4]⟩
theorem b57 : fnOf Go.Proofs.Tryd.prog (owOf []) 57 = some c57 := by kernel_rfl

end Go.Vm

end

section
/- Walks. -/
set_option maxRecDepth 100000
set_option linter.unusedSimpArgs false
set_option linter.unusedVariables false
namespace Go.Vm
open Go

section
variable {gl : Nat → Option PV}
set_option maxHeartbeats 4000000
theorem p_bits_words (n : Int) (h : 0 ≤ n ∧ n ≤ 1024) : Pure Go.Proofs.Tryd.prog gl 30 [.int .i64 n] (.int .i64 (wN n : Nat)) := by
  refine Pure.fn hmix b30 ?_
  repeat' first
    | with_reducible refine tr_seq ?_
    | ((with_reducible refine tr_region_f ?_ ?_); kernel_rfl)
    | with_reducible refine n_nil ?_
    | with_reducible refine seqQ_normal ?_
    | with_reducible refine seqQ_ret ?_
    | with_reducible refine blkQ_ret ?_
    | with_reducible refine tr_ret ?_
    | (first | ((with_reducible apply n_bin); rfl; rfl; focus ((with_reducible (first | apply b_add | apply b_sub | apply b_quo64 | apply b_rem64 | apply b_shl1 | apply b_shr | apply b_or64 | apply b_and64 | apply b_andNot64)) <;> first | omega | decide | exact pow_lt64 _ | exact getD_lt (by first | assumption | exact words_lt _ _) _ | (simp only [decide_eq_true_eq, decide_eq_false_iff_not, Bool.or_eq_false_iff, Bool.and_eq_true, Bool.not_eq_true', Bool.not_eq_false', bne_iff_ne, ne_eq, bne_eq_false_iff_eq, beq_iff_eq, beq_eq_false_iff_ne, u64s_length, words_length, List.length_replicate] at *; omega))) | ((with_reducible apply n_min); rfl; rfl) | ((with_reducible apply n_max); rfl; rfl) | ((first | ((with_reducible apply n_conv); rfl; with_reducible apply wrap_u64_of) | ((with_reducible apply n_idx_u64); rfl; rfl) | ((with_reducible apply n_idx_own); rfl; rfl; rfl) | ((with_reducible apply n_load_u64); rfl; rfl) | ((with_reducible apply n_store_u64); rfl; rfl; rfl) | ((with_reducible apply n_mk64); rfl; rfl)); first | omega | decide | exact pow_lt64 _ | exact getD_lt (by first | assumption | exact words_lt _ _) _ | (simp only [decide_eq_true_eq, decide_eq_false_iff_not, Bool.or_eq_false_iff, Bool.and_eq_true, Bool.not_eq_true', Bool.not_eq_false', bne_iff_ne, ne_eq, bne_eq_false_iff_eq, beq_iff_eq, beq_eq_false_iff_ne, u64s_length, words_length, List.length_replicate] at *; omega)) | ((with_reducible apply fnQ_ret_set); rfl; rfl; (first | rfl | exact (by simp only [words_length, List.length_replicate, List.length_set]))))
    | ((with_reducible apply n_val); rfl; rfl)
    | ((with_reducible apply fnQ_told_ret); rfl)
    | ((with_reducible apply fnQ_ret_soft); rfl; rfl)
  exact congrArg (PV.int .i64) (by unfold wN; omega)
def clN (n : Int) : Int := max 0 (min n 1024)
theorem clN_r (n : Int) : 0 ≤ clN n ∧ clN n ≤ 1024 := by unfold clN; omega
theorem wN_rng {n : Int} (h : 0 ≤ n ∧ n ≤ 1024) : (0 : Int) ≤ (wN n : Nat) ∧ ((wN n : Nat) : Int) ≤ 1048576 := by unfold wN; omega
theorem clN_mm (n : Int) : max 0 (min n 1024) = clN n := rfl
theorem f_bits_New (n : Int) : Fresh Go.Proofs.Tryd.prog gl 39 [.int .i64 n] (.agg [.int .i64 (clN n), .ref 1 0 0 (wN (clN n))]) (Hp.ofL [none, some ⟨0, 1, u64s (List.replicate (wN (clN n)) 0)⟩]) := by
  have hr := clN_r n
  have hm := clN_mm n
  have hw := wN_rng hr
  have hp := p_bits_words (gl := gl) (clN n) hr
  refine Fresh.fnL hmix b39 ?_
  repeat' first
    | with_reducible refine tr_seq ?_
    | ((with_reducible refine tr_region_f ?_ ?_); kernel_rfl)
    | with_reducible refine n_nil ?_
    | with_reducible refine seqQ_normal ?_
    | with_reducible refine seqQ_ret ?_
    | with_reducible refine blkQ_ret ?_
    | with_reducible refine tr_ret ?_
    | (first | ((with_reducible apply n_bin); rfl; rfl; focus ((with_reducible (first | apply b_add | apply b_sub | apply b_quo64 | apply b_rem64 | apply b_shl1 | apply b_shr | apply b_or64 | apply b_and64 | apply b_andNot64)) <;> first | omega | decide | exact pow_lt64 _ | exact getD_lt (by first | assumption | exact words_lt _ _) _ | (simp only [decide_eq_true_eq, decide_eq_false_iff_not, Bool.or_eq_false_iff, Bool.and_eq_true, Bool.not_eq_true', Bool.not_eq_false', bne_iff_ne, ne_eq, bne_eq_false_iff_eq, beq_iff_eq, beq_eq_false_iff_ne, u64s_length, words_length, List.length_replicate] at *; omega))) | ((with_reducible apply n_min); rfl; rfl) | ((with_reducible apply n_max); rfl; rfl) | ((first | ((with_reducible apply n_conv); rfl; with_reducible apply wrap_u64_of) | ((with_reducible apply n_idx_u64); rfl; rfl) | ((with_reducible apply n_idx_own); rfl; rfl; rfl) | ((with_reducible apply n_load_u64); rfl; rfl) | ((with_reducible apply n_store_u64); rfl; rfl; rfl) | ((with_reducible apply n_mk64); rfl; rfl)); first | omega | decide | exact pow_lt64 _ | exact getD_lt (by first | assumption | exact words_lt _ _) _ | (simp only [decide_eq_true_eq, decide_eq_false_iff_not, Bool.or_eq_false_iff, Bool.and_eq_true, Bool.not_eq_true', Bool.not_eq_false', bne_iff_ne, ne_eq, bne_eq_false_iff_eq, beq_iff_eq, beq_eq_false_iff_ne, u64s_length, words_length, List.length_replicate] at *; omega)) | ((with_reducible apply fnQ_ret_set); rfl; rfl; (first | rfl | exact (by simp only [words_length, List.length_replicate, List.length_set]))))
    | refine n_call (f := 30) rfl rfl hp ?_
    | ((with_reducible apply n_val); rfl; rfl)
    | ((with_reducible apply n_new); rfl; (first | (simp only [hn0, hn1, hn2, hn3, hn4, hn5, List.length_cons, List.length_nil, Nat.reduceAdd, Nat.zero_add]; done) | (simp only [hn0, hn1, hn2, hn3, hn4, hn5, List.length_cons, List.length_nil, Nat.reduceAdd, Nat.zero_add]; rfl) | rfl); rfl)
    | ((with_reducible apply n_store); rfl; rfl; rfl; rfl; rfl)
    | ((with_reducible apply fnQ_told_ret); rfl)
    | ((with_reducible apply fnQ_ret_soft); rfl; rfl)
  · rfl
  · exact ⟨⟨_, rfl, rfl, rfl, fzP_pure (u64s_pure _)⟩, trivial⟩
theorem mk_zero (n : Int) : sv n (List.replicate (wN n) 0) = mk n 0 := by rw [← words_zero]
theorem p_bits_New (n : Int) : Pure Go.Proofs.Tryd.prog gl 39 [.int .i64 n] (mk (clN n) 0) := by
  refine Fresh.pure (f_bits_New n) ?_
  rw [soft_set (g := 0) (sz := 1) (ws := List.replicate (wN (clN n)) 0) rfl (by simp), mk_zero]
theorem p_bits_Sane (n : Int) (ws : List Nat) (hw : W64 ws) : Pure Go.Proofs.Tryd.prog gl 9 [sv n ws] (.bool (bSane n ws)) := by
  have hk : 0 ≤ n → n % 64 ≠ 0 → 1 ≤ wN n := by unfold wN; omega
  have hk2 : n ≤ 1024 → wN n ≤ 16 := wN_small
  refine Pure.fn hmix b9 ?_
  repeat' first
    | with_reducible refine tr_seq ?_
    | ((with_reducible refine tr_region_f ?_ ?_); kernel_rfl)
    | ((with_reducible refine tr_region_t ?_ ?_ ?_); kernel_rfl; kernel_rfl)
    | with_reducible refine n_nil ?_
    | exact ⟨rfl, rfl⟩
    | with_reducible refine seqQ_normal ?_
    | with_reducible refine seqQ_ret ?_
    | with_reducible refine blkQ_ret ?_
    | with_reducible refine tr_skip ?_
    | with_reducible refine tr_ret ?_
    | ((with_reducible apply tr_cond_e); rfl)
    | with_reducible refine condT_t ?_
    | with_reducible refine condT_f ?_
    | ((with_reducible apply n_and); rfl; rfl; intro h)
    | ((with_reducible apply n_or); rfl; rfl; intro h)
    | (first | ((with_reducible apply n_bin); rfl; rfl; focus ((with_reducible (first | apply b_add | apply b_sub | apply b_quo64 | apply b_rem64 | apply b_shl1 | apply b_shr | apply b_or64 | apply b_and64 | apply b_andNot64)) <;> first | omega | decide | exact pow_lt64 _ | exact getD_lt (by first | assumption | exact words_lt _ _) _ | (simp only [decide_eq_true_eq, decide_eq_false_iff_not, Bool.or_eq_false_iff, Bool.and_eq_true, Bool.not_eq_true', Bool.not_eq_false', bne_iff_ne, ne_eq, bne_eq_false_iff_eq, beq_iff_eq, beq_eq_false_iff_ne, u64s_length, words_length, List.length_replicate] at *; omega))) | ((with_reducible apply n_min); rfl; rfl) | ((with_reducible apply n_max); rfl; rfl) | ((first | ((with_reducible apply n_conv); rfl; with_reducible apply wrap_u64_of) | ((with_reducible apply n_idx_u64); rfl; rfl) | ((with_reducible apply n_idx_own); rfl; rfl; rfl) | ((with_reducible apply n_load_u64); rfl; rfl) | ((with_reducible apply n_store_u64); rfl; rfl; rfl) | ((with_reducible apply n_mk64); rfl; rfl)); first | omega | decide | exact pow_lt64 _ | exact getD_lt (by first | assumption | exact words_lt _ _) _ | (simp only [decide_eq_true_eq, decide_eq_false_iff_not, Bool.or_eq_false_iff, Bool.and_eq_true, Bool.not_eq_true', Bool.not_eq_false', bne_iff_ne, ne_eq, bne_eq_false_iff_eq, beq_iff_eq, beq_eq_false_iff_ne, u64s_length, words_length, List.length_replicate] at *; omega)) | ((with_reducible apply fnQ_ret_set); rfl; rfl; (first | rfl | exact (by simp only [words_length, List.length_replicate, List.length_set]))))
    | ((with_reducible apply n_val); rfl; rfl)
    | ((with_reducible apply n_new); rfl; (first | (simp only [hn0, hn1, hn2, hn3, hn4, hn5, List.length_cons, List.length_nil, Nat.reduceAdd, Nat.zero_add]; done) | (simp only [hn0, hn1, hn2, hn3, hn4, hn5, List.length_cons, List.length_nil, Nat.reduceAdd, Nat.zero_add]; rfl) | rfl); rfl)
    | ((with_reducible apply n_call (f := 30)); rfl; rfl; exact p_bits_words n (by first | omega | decide | exact pow_lt64 _ | exact getD_lt (by first | assumption | exact words_lt _ _) _ | (simp only [decide_eq_true_eq, decide_eq_false_iff_not, Bool.or_eq_false_iff, Bool.and_eq_true, Bool.not_eq_true', Bool.not_eq_false', bne_iff_ne, ne_eq, bne_eq_false_iff_eq, beq_iff_eq, beq_eq_false_iff_ne, u64s_length, words_length, List.length_replicate] at *; omega)))
    | (with_reducible refine condT_split (fun h => ?_) (fun h => ?_))
    | ((with_reducible apply fnQ_told_ret); rfl)
    | ((with_reducible apply fnQ_ret_soft); rfl; rfl)
  all_goals refine congrArg PV.bool ?_
  · symm
    rw [bSane_false_iff]
    simp only [Bool.or_eq_true, decide_eq_true_eq, bne_iff_ne, ne_eq, u64s_length] at h
    omega
  · have h' := ‹_ = false›
    simp only [Bool.or_eq_false_iff, decide_eq_false_iff_not, bne_eq_false_iff_eq, u64s_length] at h'
    simp only [u64s_length]
    exact bSane_code hw (by omega) (by omega) (by omega)
theorem p_bits_sane (n : Int) (ws : List Nat) (hw : W64 ws) : Pure Go.Proofs.Tryd.prog gl 37 [sv n ws] (mk (nN n ws) (vN n ws)) := by
  refine Pure.fn hmix b37 ?_
  repeat' first
    | with_reducible refine tr_seq ?_
    | ((with_reducible refine tr_region_f ?_ ?_); kernel_rfl)
    | with_reducible refine n_nil ?_
    | with_reducible refine seqQ_normal ?_
    | with_reducible refine seqQ_ret ?_
    | with_reducible refine blkQ_ret ?_
    | with_reducible refine tr_skip ?_
    | with_reducible refine tr_ret ?_
    | ((with_reducible apply tr_cond_e); rfl)
    | with_reducible refine condT_t ?_
    | with_reducible refine condT_f ?_
    | (first | ((with_reducible apply n_bin); rfl; rfl; focus ((with_reducible (first | apply b_add | apply b_sub | apply b_quo64 | apply b_rem64 | apply b_shl1 | apply b_shr | apply b_or64 | apply b_and64 | apply b_andNot64)) <;> first | omega | decide | exact pow_lt64 _ | exact getD_lt (by first | assumption | exact words_lt _ _) _ | (simp only [decide_eq_true_eq, decide_eq_false_iff_not, Bool.or_eq_false_iff, Bool.and_eq_true, Bool.not_eq_true', Bool.not_eq_false', bne_iff_ne, ne_eq, bne_eq_false_iff_eq, beq_iff_eq, beq_eq_false_iff_ne, u64s_length, words_length, List.length_replicate] at *; omega))) | ((with_reducible apply n_min); rfl; rfl) | ((with_reducible apply n_max); rfl; rfl) | ((first | ((with_reducible apply n_conv); rfl; with_reducible apply wrap_u64_of) | ((with_reducible apply n_idx_u64); rfl; rfl) | ((with_reducible apply n_idx_own); rfl; rfl; rfl) | ((with_reducible apply n_load_u64); rfl; rfl) | ((with_reducible apply n_store_u64); rfl; rfl; rfl) | ((with_reducible apply n_mk64); rfl; rfl)); first | omega | decide | exact pow_lt64 _ | exact getD_lt (by first | assumption | exact words_lt _ _) _ | (simp only [decide_eq_true_eq, decide_eq_false_iff_not, Bool.or_eq_false_iff, Bool.and_eq_true, Bool.not_eq_true', Bool.not_eq_false', bne_iff_ne, ne_eq, bne_eq_false_iff_eq, beq_iff_eq, beq_eq_false_iff_ne, u64s_length, words_length, List.length_replicate] at *; omega)) | ((with_reducible apply fnQ_ret_set); rfl; rfl; (first | rfl | exact (by simp only [words_length, List.length_replicate, List.length_set]))))
    | ((with_reducible apply n_val); rfl; rfl)
    | ((with_reducible apply n_new); rfl; (first | (simp only [hn0, hn1, hn2, hn3, hn4, hn5, List.length_cons, List.length_nil, Nat.reduceAdd, Nat.zero_add]; done) | (simp only [hn0, hn1, hn2, hn3, hn4, hn5, List.length_cons, List.length_nil, Nat.reduceAdd, Nat.zero_add]; rfl) | rfl); rfl)
    | ((with_reducible apply n_store); rfl; rfl; rfl; rfl; rfl)
    | ((with_reducible apply n_call (f := 9)); rfl; rfl; exact p_bits_Sane n ws hw)
    | ((with_reducible apply n_call (f := 39)); rfl; rfl; exact p_bits_New 0)
    | (with_reducible refine condT_split (fun h => ?_) (fun h => ?_))
    | ((with_reducible apply fnQ_told_ret); rfl)
    | ((with_reducible apply fnQ_ret_soft); rfl; rfl)
  · have h' : bSane n ws = false := by simpa using h
    rw [unsane_nN h', unsane_vN h']
    rfl
  · have h' : bSane n ws = true := by simpa using h
    show sv n ws = sv (nN n ws) _
    rw [sane_words hw h', sane_nN h']
theorem p_bits_is (n i : Int) (x : PV) (hx : pure1 x = true) : Pure Go.Proofs.Tryd.prog gl 35 [.agg [.int .i64 n, x], .int .i64 i] (.bool (decide (0 ≤ i) && decide (i < n))) := by
  refine Pure.fn hmix b35 ?_
  repeat' first
    | with_reducible refine tr_seq ?_
    | ((with_reducible refine tr_region_f ?_ ?_); kernel_rfl)
    | with_reducible refine n_nil ?_
    | exact ⟨rfl, rfl⟩
    | with_reducible refine seqQ_normal ?_
    | with_reducible refine seqQ_ret ?_
    | with_reducible refine blkQ_ret ?_
    | with_reducible refine tr_ret ?_
    | ((with_reducible apply n_and); rfl; rfl; intro h)
    | ((with_reducible apply n_or); rfl; rfl; intro h)
    | ((with_reducible apply n_val); rfl; rfl)
    | ((with_reducible apply n_new); rfl; (first | (simp only [hn0, hn1, hn2, hn3, hn4, hn5, List.length_cons, List.length_nil, Nat.reduceAdd, Nat.zero_add]; done) | (simp only [hn0, hn1, hn2, hn3, hn4, hn5, List.length_cons, List.length_nil, Nat.reduceAdd, Nat.zero_add]; rfl) | rfl); rfl)
    | ((with_reducible apply fnQ_told_ret); rfl)
    | ((with_reducible apply fnQ_ret_soft); rfl; rfl)
  rfl
theorem p_bits_at (i : Int) (h : 0 ≤ i ∧ i < 1024) : Pure Go.Proofs.Tryd.prog gl 36 [.int .i64 i] (.tup [.int .i64 (i / 64), .int .u64 ((2 ^ (i % 64).toNat : Nat) : Int)]) := by
  refine Pure.fn hmix b36 ?_
  repeat' first
    | with_reducible refine tr_seq ?_
    | ((with_reducible refine tr_region_f ?_ ?_); kernel_rfl)
    | with_reducible refine n_nil ?_
    | with_reducible refine seqQ_normal ?_
    | with_reducible refine seqQ_ret ?_
    | with_reducible refine blkQ_ret ?_
    | with_reducible refine tr_ret ?_
    | (first | ((with_reducible apply n_bin); rfl; rfl; focus ((with_reducible (first | apply b_add | apply b_sub | apply b_quo64 | apply b_rem64 | apply b_shl1 | apply b_shr | apply b_or64 | apply b_and64 | apply b_andNot64)) <;> first | omega | decide | exact pow_lt64 _ | exact getD_lt (by first | assumption | exact words_lt _ _) _ | (simp only [decide_eq_true_eq, decide_eq_false_iff_not, Bool.or_eq_false_iff, Bool.and_eq_true, Bool.not_eq_true', Bool.not_eq_false', bne_iff_ne, ne_eq, bne_eq_false_iff_eq, beq_iff_eq, beq_eq_false_iff_ne, u64s_length, words_length, List.length_replicate] at *; omega))) | ((with_reducible apply n_min); rfl; rfl) | ((with_reducible apply n_max); rfl; rfl) | ((first | ((with_reducible apply n_conv); rfl; with_reducible apply wrap_u64_of) | ((with_reducible apply n_idx_u64); rfl; rfl) | ((with_reducible apply n_idx_own); rfl; rfl; rfl) | ((with_reducible apply n_load_u64); rfl; rfl) | ((with_reducible apply n_store_u64); rfl; rfl; rfl) | ((with_reducible apply n_mk64); rfl; rfl)); first | omega | decide | exact pow_lt64 _ | exact getD_lt (by first | assumption | exact words_lt _ _) _ | (simp only [decide_eq_true_eq, decide_eq_false_iff_not, Bool.or_eq_false_iff, Bool.and_eq_true, Bool.not_eq_true', Bool.not_eq_false', bne_iff_ne, ne_eq, bne_eq_false_iff_eq, beq_iff_eq, beq_eq_false_iff_ne, u64s_length, words_length, List.length_replicate] at *; omega)) | ((with_reducible apply fnQ_ret_set); rfl; rfl; (first | rfl | exact (by simp only [words_length, List.length_replicate, List.length_set]))))
    | ((with_reducible apply n_val); rfl; rfl)
    | ((with_reducible apply fnQ_told_ret); rfl)
    | ((with_reducible apply fnQ_ret_soft); rfl; rfl)
  rfl
theorem p_bits_Has (n : Int) (ws : List Nat) (i : Int) (hw : W64 ws) : Pure Go.Proofs.Tryd.prog gl 12 [sv n ws, .int .i64 i] (.bool (bSane n ws && decide (0 ≤ i) && decide (i < n) && (val ws).testBit i.toNat)) := by
  have hS := p_bits_Sane (gl := gl) n ws hw
  cases hb : bSane n ws with
  | false =>
    rw [hb] at hS
    refine Pure.fn hmix b12 ?_
    repeat' first
      | with_reducible refine tr_seq ?_
      | ((with_reducible refine tr_region_f ?_ ?_); kernel_rfl)
      | with_reducible refine n_nil ?_
      | exact ⟨rfl, rfl⟩
      | with_reducible refine seqQ_normal ?_
      | with_reducible refine seqQ_ret ?_
      | with_reducible refine blkQ_ret ?_
      | with_reducible refine tr_skip ?_
      | with_reducible refine tr_ret ?_
      | ((with_reducible apply tr_cond_e); rfl)
      | with_reducible refine condT_t ?_
      | with_reducible refine condT_f ?_
      | ((with_reducible refine condT_T ?_ ?_); decide +kernel)
      | ((with_reducible refine condT_F ?_ ?_); decide +kernel)
      | ((with_reducible apply n_andF); rfl; rfl; decide +kernel)
      | ((with_reducible apply n_orT); rfl; rfl; decide +kernel)
      | ((with_reducible apply n_and); rfl; rfl; intro h)
      | ((with_reducible apply n_or); rfl; rfl; intro h)
      | with_reducible refine unrQ_normal ?_
      | with_reducible refine unrQ_exit ?_
      | with_reducible refine unrQ_ret ?_
      | (first | ((with_reducible apply n_bin); rfl; rfl; focus ((with_reducible (first | apply b_add | apply b_sub | apply b_quo64 | apply b_rem64 | apply b_shl1 | apply b_shr | apply b_or64 | apply b_and64 | apply b_andNot64)) <;> first | omega | decide | exact pow_lt64 _ | exact getD_lt (by first | assumption | exact words_lt _ _) _ | (simp only [decide_eq_true_eq, decide_eq_false_iff_not, Bool.or_eq_false_iff, Bool.and_eq_true, Bool.not_eq_true', Bool.not_eq_false', bne_iff_ne, ne_eq, bne_eq_false_iff_eq, beq_iff_eq, beq_eq_false_iff_ne, u64s_length, words_length, List.length_replicate] at *; omega))) | ((with_reducible apply n_min); rfl; rfl) | ((with_reducible apply n_max); rfl; rfl) | ((first | ((with_reducible apply n_conv); rfl; with_reducible apply wrap_u64_of) | ((with_reducible apply n_idx_u64); rfl; rfl) | ((with_reducible apply n_idx_own); rfl; rfl; rfl) | ((with_reducible apply n_load_u64); rfl; rfl) | ((with_reducible apply n_store_u64); rfl; rfl; rfl) | ((with_reducible apply n_mk64); rfl; rfl)); first | omega | decide | exact pow_lt64 _ | exact getD_lt (by first | assumption | exact words_lt _ _) _ | (simp only [decide_eq_true_eq, decide_eq_false_iff_not, Bool.or_eq_false_iff, Bool.and_eq_true, Bool.not_eq_true', Bool.not_eq_false', bne_iff_ne, ne_eq, bne_eq_false_iff_eq, beq_iff_eq, beq_eq_false_iff_ne, u64s_length, words_length, List.length_replicate] at *; omega)) | ((with_reducible apply fnQ_ret_set); rfl; rfl; (first | rfl | exact (by simp only [words_length, List.length_replicate, List.length_set]))))
      | refine n_call (f := 9) rfl rfl hS ?_
      | ((with_reducible apply n_val); rfl; rfl)
      | ((with_reducible apply n_new); rfl; (first | (simp only [hn0, hn1, hn2, hn3, hn4, hn5, List.length_cons, List.length_nil, Nat.reduceAdd, Nat.zero_add]; done) | (simp only [hn0, hn1, hn2, hn3, hn4, hn5, List.length_cons, List.length_nil, Nat.reduceAdd, Nat.zero_add]; rfl) | rfl); rfl)
      | ((with_reducible apply n_call (f := 35)); rfl; rfl; exact p_bits_is n i _ rfl)
      | (with_reducible refine condT_split (fun h => ?_) (fun h => ?_))
      | ((with_reducible apply fnQ_told_ret); rfl)
      | ((with_reducible apply fnQ_ret_soft); rfl; rfl)
    rfl
  | true =>
    rw [hb] at hS
    obtain ⟨g1, g2, g3, _⟩ := bSane_iff.1 hb
    have g4 := wN_le g1
    refine Pure.fn hmix b12 ?_
    repeat' first
      | with_reducible refine tr_seq ?_
      | ((with_reducible refine tr_region_f ?_ ?_); kernel_rfl)
      | with_reducible refine n_nil ?_
      | exact ⟨rfl, rfl⟩
      | with_reducible refine seqQ_normal ?_
      | with_reducible refine seqQ_ret ?_
      | with_reducible refine blkQ_ret ?_
      | with_reducible refine tr_skip ?_
      | with_reducible refine tr_ret ?_
      | ((with_reducible apply tr_cond_e); rfl)
      | with_reducible refine condT_t ?_
      | with_reducible refine condT_f ?_
      | ((with_reducible apply n_and); rfl; rfl; intro h)
      | ((with_reducible apply n_or); rfl; rfl; intro h)
      | (first | ((with_reducible apply n_bin); rfl; rfl; focus ((with_reducible (first | apply b_add | apply b_sub | apply b_quo64 | apply b_rem64 | apply b_shl1 | apply b_shr | apply b_or64 | apply b_and64 | apply b_andNot64)) <;> first | omega | decide | exact pow_lt64 _ | exact getD_lt (by first | assumption | exact words_lt _ _) _ | (simp only [decide_eq_true_eq, decide_eq_false_iff_not, Bool.or_eq_false_iff, Bool.and_eq_true, Bool.not_eq_true', Bool.not_eq_false', bne_iff_ne, ne_eq, bne_eq_false_iff_eq, beq_iff_eq, beq_eq_false_iff_ne, u64s_length, words_length, List.length_replicate] at *; omega))) | ((with_reducible apply n_min); rfl; rfl) | ((with_reducible apply n_max); rfl; rfl) | ((first | ((with_reducible apply n_conv); rfl; with_reducible apply wrap_u64_of) | ((with_reducible apply n_idx_u64); rfl; rfl) | ((with_reducible apply n_idx_own); rfl; rfl; rfl) | ((with_reducible apply n_load_u64); rfl; rfl) | ((with_reducible apply n_store_u64); rfl; rfl; rfl) | ((with_reducible apply n_mk64); rfl; rfl)); first | omega | decide | exact pow_lt64 _ | exact getD_lt (by first | assumption | exact words_lt _ _) _ | (simp only [decide_eq_true_eq, decide_eq_false_iff_not, Bool.or_eq_false_iff, Bool.and_eq_true, Bool.not_eq_true', Bool.not_eq_false', bne_iff_ne, ne_eq, bne_eq_false_iff_eq, beq_iff_eq, beq_eq_false_iff_ne, u64s_length, words_length, List.length_replicate] at *; omega)) | ((with_reducible apply fnQ_ret_set); rfl; rfl; (first | rfl | exact (by simp only [words_length, List.length_replicate, List.length_set]))))
      | refine n_call (f := 9) rfl rfl hS ?_
      | ((with_reducible apply n_val); rfl; rfl)
      | ((with_reducible apply n_new); rfl; (first | (simp only [hn0, hn1, hn2, hn3, hn4, hn5, List.length_cons, List.length_nil, Nat.reduceAdd, Nat.zero_add]; done) | (simp only [hn0, hn1, hn2, hn3, hn4, hn5, List.length_cons, List.length_nil, Nat.reduceAdd, Nat.zero_add]; rfl) | rfl); rfl)
      | ((with_reducible apply n_call (f := 35)); rfl; rfl; exact p_bits_is n i _ rfl)
      | ((with_reducible apply n_call (f := 36)); rfl; rfl; exact p_bits_at i (by first | omega | decide | exact pow_lt64 _ | exact getD_lt (by first | assumption | exact words_lt _ _) _ | (simp only [decide_eq_true_eq, decide_eq_false_iff_not, Bool.or_eq_false_iff, Bool.and_eq_true, Bool.not_eq_true', Bool.not_eq_false', bne_iff_ne, ne_eq, bne_eq_false_iff_eq, beq_iff_eq, beq_eq_false_iff_ne, u64s_length, words_length, List.length_replicate] at *; omega)))
      | (with_reducible refine condT_split (fun h => ?_) (fun h => ?_))
      | ((with_reducible apply fnQ_told_ret); rfl)
      | ((with_reducible apply fnQ_ret_soft); rfl; rfl)
    all_goals refine congrArg PV.bool ?_
    · simp only [Bool.not_true, Bool.false_or, Bool.true_and, Bool.not_eq_true'] at h ⊢
      rw [h]; rfl
    · simp only [Bool.not_true, Bool.false_or, Bool.true_and, Bool.not_eq_false'] at h ⊢
      rw [h, Bool.true_and]
      exact has_bit hw (by simp at h; omega)
theorem f_bits_own (m : Int) (ws : List Nat) (n : Int) (hw : W64 ws) (h0 : nN m ws ≤ n) (h1 : n ≤ 1024) : Fresh Go.Proofs.Tryd.prog gl 57 [sv m ws, .int .i64 n] (.agg [.int .i64 n, .ref 3 0 0 (wN n)]) (Hp.ofL [none, none, none, some ⟨0, 1, u64s (words (wN n) (vN m ws))⟩]) := by
  have hr := nN_r m ws
  have hcl : clN n = n := by unfold clN; omega
  have hN := f_bits_New (gl := gl) n
  rw [hcl] at hN
  have hm := wN_mono h0
  refine Fresh.fnL hmix b57 ?_
  repeat' first
    | with_reducible refine tr_seq ?_
    | ((with_reducible refine tr_region_f ?_ ?_); kernel_rfl)
    | ((with_reducible refine tr_region_t ?_ ?_ ?_); kernel_rfl; kernel_rfl)
    | with_reducible refine n_nil ?_
    | with_reducible refine seqQ_normal ?_
    | with_reducible refine seqQ_ret ?_
    | with_reducible refine blkQ_ret ?_
    | with_reducible refine tr_ret ?_
    | ((with_reducible apply n_copy64); rfl; rfl; rfl; (simp only [List.length_replicate]); (simp only [words_length, List.length_replicate]; exact hm))
    | ((with_reducible apply n_val); rfl; rfl)
    | ((with_reducible apply n_new); rfl; (first | (simp only [hn0, hn1, hn2, hn3, hn4, hn5, List.length_cons, List.length_nil, Nat.reduceAdd, Nat.zero_add]; done) | (simp only [hn0, hn1, hn2, hn3, hn4, hn5, List.length_cons, List.length_nil, Nat.reduceAdd, Nat.zero_add]; rfl) | rfl); rfl)
    | ((with_reducible apply n_store); rfl; rfl; rfl; rfl; rfl)
    | ((with_reducible apply n_freshL ); (first | (simp only [hn0, hn1, hn2, hn3, hn4, hn5, List.length_cons, List.length_nil, Nat.reduceAdd, Nat.zero_add]; done) | (simp only [hn0, hn1, hn2, hn3, hn4, hn5, List.length_cons, List.length_nil, Nat.reduceAdd, Nat.zero_add]; rfl) | rfl); rfl; rfl; exact hN; rfl; (repeat (first | exact ShL.nil | apply ShL.none | (apply ShL.some; (first | rfl | exact shiftPs_pure (u64s_pure _) | exact shiftPs_pure (ints_pure _) | exact shiftPs_pure (vals_pure (fun _ => rfl) _))))))
    | ((with_reducible apply n_call (f := 37)); rfl; rfl; exact p_bits_sane m ws hw)
    | ((with_reducible apply fnQ_told_ret); rfl)
    | ((with_reducible apply fnQ_ret_soft); rfl; rfl)
  · rfl
  · refine ⟨⟨_, rfl, rfl, rfl, ?_⟩, trivial⟩
    rw [words_length, List.drop_replicate, words_more (lt_words hr.1 (vN_lt m ws)) hm]
    exact fzP_pure (u64s_pure _)
theorem p_bits_own (m : Int) (ws : List Nat) (n : Int) (hw : W64 ws) (h0 : nN m ws ≤ n) (h1 : n ≤ 1024) : Pure Go.Proofs.Tryd.prog gl 57 [sv m ws, .int .i64 n] (mk n (vN m ws)) :=
  Fresh.pure (f_bits_own m ws n hw h0 h1) (soft_set (g := 0) (sz := 1) rfl (by rw [words_length]))
theorem p_bits_With (n : Int) (ws : List Nat) (i : Int) (hw : W64 ws) : Pure Go.Proofs.Tryd.prog gl 40 [sv n ws, .int .i64 i] (mk (nN n ws) (if 0 ≤ i ∧ i < nN n ws then withB (vN n ws) i.toNat else vN n ws)) := by
  have hr := nN_r n ws
  have g4 := wN_le hr.1
  have ho := f_bits_own (gl := gl) n ws (nN n ws) hw (by omega) (by omega)
  refine Pure.fn hmix b40 ?_
  repeat' first
    | with_reducible refine tr_seq ?_
    | ((with_reducible refine tr_region_f ?_ ?_); kernel_rfl)
    | ((with_reducible refine tr_region_t ?_ ?_ ?_); kernel_rfl; kernel_rfl)
    | with_reducible refine n_nil ?_
    | with_reducible refine seqQ_normal ?_
    | with_reducible refine seqQ_ret ?_
    | with_reducible refine blkQ_ret ?_
    | with_reducible refine tr_skip ?_
    | with_reducible refine tr_ret ?_
    | ((with_reducible apply tr_cond_e); rfl)
    | with_reducible refine condT_t ?_
    | with_reducible refine condT_f ?_
    | (first | ((with_reducible apply n_bin); rfl; rfl; focus ((with_reducible (first | apply b_add | apply b_sub | apply b_quo64 | apply b_rem64 | apply b_shl1 | apply b_shr | apply b_or64 | apply b_and64 | apply b_andNot64)) <;> first | omega | decide | exact pow_lt64 _ | exact getD_lt (by first | assumption | exact words_lt _ _) _ | (simp only [decide_eq_true_eq, decide_eq_false_iff_not, Bool.or_eq_false_iff, Bool.and_eq_true, Bool.not_eq_true', Bool.not_eq_false', bne_iff_ne, ne_eq, bne_eq_false_iff_eq, beq_iff_eq, beq_eq_false_iff_ne, u64s_length, words_length, List.length_replicate] at *; omega))) | ((with_reducible apply n_min); rfl; rfl) | ((with_reducible apply n_max); rfl; rfl) | ((first | ((with_reducible apply n_conv); rfl; with_reducible apply wrap_u64_of) | ((with_reducible apply n_idx_u64); rfl; rfl) | ((with_reducible apply n_idx_own); rfl; rfl; rfl) | ((with_reducible apply n_load_u64); rfl; rfl) | ((with_reducible apply n_store_u64); rfl; rfl; rfl) | ((with_reducible apply n_mk64); rfl; rfl)); first | omega | decide | exact pow_lt64 _ | exact getD_lt (by first | assumption | exact words_lt _ _) _ | (simp only [decide_eq_true_eq, decide_eq_false_iff_not, Bool.or_eq_false_iff, Bool.and_eq_true, Bool.not_eq_true', Bool.not_eq_false', bne_iff_ne, ne_eq, bne_eq_false_iff_eq, beq_iff_eq, beq_eq_false_iff_ne, u64s_length, words_length, List.length_replicate] at *; omega)) | ((with_reducible apply fnQ_ret_set); rfl; rfl; (first | rfl | exact (by simp only [words_length, List.length_replicate, List.length_set]))))
    | ((with_reducible apply n_val); rfl; rfl)
    | ((with_reducible apply n_new); rfl; (first | (simp only [hn0, hn1, hn2, hn3, hn4, hn5, List.length_cons, List.length_nil, Nat.reduceAdd, Nat.zero_add]; done) | (simp only [hn0, hn1, hn2, hn3, hn4, hn5, List.length_cons, List.length_nil, Nat.reduceAdd, Nat.zero_add]; rfl) | rfl); rfl)
    | ((with_reducible apply n_store); rfl; rfl; rfl; rfl; rfl)
    | ((with_reducible apply n_call (f := 37)); rfl; rfl; exact p_bits_sane n ws hw)
    | ((with_reducible apply n_freshL ); (first | (simp only [hn0, hn1, hn2, hn3, hn4, hn5, List.length_cons, List.length_nil, Nat.reduceAdd, Nat.zero_add]; done) | (simp only [hn0, hn1, hn2, hn3, hn4, hn5, List.length_cons, List.length_nil, Nat.reduceAdd, Nat.zero_add]; rfl) | rfl); rfl; rfl; exact ho; rfl; (repeat (first | exact ShL.nil | apply ShL.none | (apply ShL.some; (first | rfl | exact shiftPs_pure (u64s_pure _) | exact shiftPs_pure (ints_pure _) | exact shiftPs_pure (vals_pure (fun _ => rfl) _))))))
    | ((with_reducible apply n_callb (f := 35)); rfl; exact softs_set rfl (by first | rfl | simp only [words_length, List.length_replicate] ) rfl; exact p_bits_is (nN n ws) i _ rfl; rfl)
    | ((with_reducible apply n_call (f := 36)); rfl; rfl; exact p_bits_at i (by first | omega | decide | exact pow_lt64 _ | exact getD_lt (by first | assumption | exact words_lt _ _) _ | (simp only [decide_eq_true_eq, decide_eq_false_iff_not, Bool.or_eq_false_iff, Bool.and_eq_true, Bool.not_eq_true', Bool.not_eq_false', bne_iff_ne, ne_eq, bne_eq_false_iff_eq, beq_iff_eq, beq_eq_false_iff_ne, u64s_length, words_length, List.length_replicate] at *; omega)))
    | (with_reducible refine condT_split (fun h => ?_) (fun h => ?_))
    | ((with_reducible apply fnQ_told_ret); rfl)
    | ((with_reducible apply fnQ_ret_soft); rfl; rfl)
  · simp only [Bool.and_eq_true, decide_eq_true_eq] at h
    rw [if_pos h]
    exact congrArg (sv _) (set_with h.1 (by omega))
  · simp only [Bool.and_eq_false_iff, decide_eq_false_iff_not] at h
    rw [if_neg (by omega)]
theorem p_bits_Without (n : Int) (ws : List Nat) (i : Int) (hw : W64 ws) : Pure Go.Proofs.Tryd.prog gl 31 [sv n ws, .int .i64 i] (mk (nN n ws) (if 0 ≤ i ∧ i < nN n ws then minus (vN n ws) (2 ^ i.toNat) else vN n ws)) := by
  have hr := nN_r n ws
  have g4 := wN_le hr.1
  have ho := f_bits_own (gl := gl) n ws (nN n ws) hw (by omega) (by omega)
  refine Pure.fn hmix b31 ?_
  repeat' first
    | with_reducible refine tr_seq ?_
    | ((with_reducible refine tr_region_f ?_ ?_); kernel_rfl)
    | ((with_reducible refine tr_region_t ?_ ?_ ?_); kernel_rfl; kernel_rfl)
    | with_reducible refine n_nil ?_
    | with_reducible refine seqQ_normal ?_
    | with_reducible refine seqQ_ret ?_
    | with_reducible refine blkQ_ret ?_
    | with_reducible refine tr_skip ?_
    | with_reducible refine tr_ret ?_
    | ((with_reducible apply tr_cond_e); rfl)
    | with_reducible refine condT_t ?_
    | with_reducible refine condT_f ?_
    | (first | ((with_reducible apply n_bin); rfl; rfl; focus ((with_reducible (first | apply b_add | apply b_sub | apply b_quo64 | apply b_rem64 | apply b_shl1 | apply b_shr | apply b_or64 | apply b_and64 | apply b_andNot64)) <;> first | omega | decide | exact pow_lt64 _ | exact getD_lt (by first | assumption | exact words_lt _ _) _ | (simp only [decide_eq_true_eq, decide_eq_false_iff_not, Bool.or_eq_false_iff, Bool.and_eq_true, Bool.not_eq_true', Bool.not_eq_false', bne_iff_ne, ne_eq, bne_eq_false_iff_eq, beq_iff_eq, beq_eq_false_iff_ne, u64s_length, words_length, List.length_replicate] at *; omega))) | ((with_reducible apply n_min); rfl; rfl) | ((with_reducible apply n_max); rfl; rfl) | ((first | ((with_reducible apply n_conv); rfl; with_reducible apply wrap_u64_of) | ((with_reducible apply n_idx_u64); rfl; rfl) | ((with_reducible apply n_idx_own); rfl; rfl; rfl) | ((with_reducible apply n_load_u64); rfl; rfl) | ((with_reducible apply n_store_u64); rfl; rfl; rfl) | ((with_reducible apply n_mk64); rfl; rfl)); first | omega | decide | exact pow_lt64 _ | exact getD_lt (by first | assumption | exact words_lt _ _) _ | (simp only [decide_eq_true_eq, decide_eq_false_iff_not, Bool.or_eq_false_iff, Bool.and_eq_true, Bool.not_eq_true', Bool.not_eq_false', bne_iff_ne, ne_eq, bne_eq_false_iff_eq, beq_iff_eq, beq_eq_false_iff_ne, u64s_length, words_length, List.length_replicate] at *; omega)) | ((with_reducible apply fnQ_ret_set); rfl; rfl; (first | rfl | exact (by simp only [words_length, List.length_replicate, List.length_set]))))
    | ((with_reducible apply n_val); rfl; rfl)
    | ((with_reducible apply n_new); rfl; (first | (simp only [hn0, hn1, hn2, hn3, hn4, hn5, List.length_cons, List.length_nil, Nat.reduceAdd, Nat.zero_add]; done) | (simp only [hn0, hn1, hn2, hn3, hn4, hn5, List.length_cons, List.length_nil, Nat.reduceAdd, Nat.zero_add]; rfl) | rfl); rfl)
    | ((with_reducible apply n_store); rfl; rfl; rfl; rfl; rfl)
    | ((with_reducible apply n_call (f := 37)); rfl; rfl; exact p_bits_sane n ws hw)
    | ((with_reducible apply n_freshL ); (first | (simp only [hn0, hn1, hn2, hn3, hn4, hn5, List.length_cons, List.length_nil, Nat.reduceAdd, Nat.zero_add]; done) | (simp only [hn0, hn1, hn2, hn3, hn4, hn5, List.length_cons, List.length_nil, Nat.reduceAdd, Nat.zero_add]; rfl) | rfl); rfl; rfl; exact ho; rfl; (repeat (first | exact ShL.nil | apply ShL.none | (apply ShL.some; (first | rfl | exact shiftPs_pure (u64s_pure _) | exact shiftPs_pure (ints_pure _) | exact shiftPs_pure (vals_pure (fun _ => rfl) _))))))
    | ((with_reducible apply n_callb (f := 35)); rfl; exact softs_set rfl (by first | rfl | simp only [words_length, List.length_replicate] ) rfl; exact p_bits_is (nN n ws) i _ rfl; rfl)
    | ((with_reducible apply n_call (f := 36)); rfl; rfl; exact p_bits_at i (by first | omega | decide | exact pow_lt64 _ | exact getD_lt (by first | assumption | exact words_lt _ _) _ | (simp only [decide_eq_true_eq, decide_eq_false_iff_not, Bool.or_eq_false_iff, Bool.and_eq_true, Bool.not_eq_true', Bool.not_eq_false', bne_iff_ne, ne_eq, bne_eq_false_iff_eq, beq_iff_eq, beq_eq_false_iff_ne, u64s_length, words_length, List.length_replicate] at *; omega)))
    | (with_reducible refine condT_split (fun h => ?_) (fun h => ?_))
    | ((with_reducible apply fnQ_told_ret); rfl)
    | ((with_reducible apply fnQ_ret_soft); rfl; rfl)
  · simp only [Bool.and_eq_true, decide_eq_true_eq] at h
    rw [if_pos h]
    exact congrArg (sv _) (set_without h.1 (by omega))
  · simp only [Bool.and_eq_false_iff, decide_eq_false_iff_not] at h
    rw [if_neg (by omega)]
end

end Go.Vm

end
