/- Laid. -/
import Derived.Test.YtlcbceneacnaiaaGreatDoorVmThree
import Derived.KernelRfl
import Derived.Test.YtlcbceneacnaiaaGreatDoorProg
import Derived.Test.YtlcbceneacnaiaaGreatDoorXbitsA
section
/- Code. -/
set_option maxRecDepth 100000
set_option linter.unusedSimpArgs false
set_option linter.unusedVariables false
namespace Go.Vm
open Go
def c16 : RFn := ⟨(.seq (.region (Nodes.flat none (.op (some 2) (.box (.t 0)) 0
  (.op (some 3) (.box (.t 1)) 0
  (.op (some 4) (.alloc (.agg [(.int .i64 0), (.lit [])])) 0
  .nil)))) false)
 (.seq (.region (Nodes.flat none (.op (some 10) (.load (some 2) (.t 2)) 0
  (.op (some 11) (.load (some 2) (.t 3)) 0
  (.op (some 12) (.call 42 [(.t 10), (.t 11)]) 0
  (.op (some 9) (.move (.t 12)) 0
  (.op (some 13) (.extract 0 (.t 9)) 0
  (.op (some 14) (.extract 1 (.t 9)) 0
  (.op (some 5) (.alloc (.agg [(.int .i64 0), (.lit [])])) 0
  (.op (some 6) (.alloc (.agg [(.int .i64 0), (.lit [])])) 0
  (.op none (.store 2 (.t 5) (.t 13)) 0
  (.op none (.store 2 (.t 6) (.t 14)) 0
  .nil))))))))))) false)
 (.seq (.seq (.region (Nodes.flat none (.op (some 15) (.fieldAddr 1 (.t 6)) 0
  (.op (some 16) (.load none (.t 15)) 0
  (.op (some 17) (.len false (.t 16)) 0
  (.op (some 18) (.move (.c (.int .i64 0))) 0
  .nil))))) false)
 (.block 0 (.loop (.seq (.region (Nodes.flat none (.op (some 19) (.bin .lss (.t 18) (.t 17)) 0
  .nil)) false)
 (.seq (.cond (.t 19)
 .skip
 (.exit 0))
 (.seq (.block 1 (.seq (.region (Nodes.flat none (.op (some 20) (.move (.t 18)) 0
  (.op (some 21) (.idxAddr 1 (.t 16) (.t 18)) 0
  (.op (some 22) (.load none (.t 21)) 0
  (.op (some 7) (.move (.t 20)) 0
  (.op (some 8) (.move (.t 22)) 0
  .nil)))))) false)
 (.region (Nodes.flat none (.op (some 23) (.fieldAddr 1 (.t 5)) 0
  (.op (some 24) (.load none (.t 23)) 0
  (.op (some 25) (.move (.t 7)) 0
  (.op (some 26) (.idxAddr 1 (.t 24) (.t 25)) 0
  (.op (some 27) (.load none (.t 26)) 0
  (.op (some 28) (.move (.t 8)) 0
  (.op (some 29) (.bin .or (.t 27) (.t 28)) 0
  (.op (some 30) (.idxAddr 1 (.t 24) (.t 25)) 0
  (.op none (.store 1 (.t 30) (.t 29)) 0
  .nil)))))))))) false)))
 (.region (Nodes.flat none (.op (some 31) (.bin .add (.t 18) (.c (.int .i64 1))) 0
  (.op (some 18) (.move (.t 31)) 0
  .nil))) false)))))))
 (.seq (.region (Nodes.flat none (.op (some 32) (.load (some 2) (.t 5)) 0
  (.op none (.store 2 (.t 4) (.t 32)) 0
  .nil))) false)
 .ret)))),
 [.cell (some 2) 4]⟩
theorem b16 : fnOf Go.Proofs.Tryz.prog (owOf []) 16 = some c16 := by kernel_rfl
def c42 : RFn := ⟨(.seq (.region (Nodes.flat none (.op (some 2) (.box (.t 0)) 0
  (.op (some 3) (.box (.t 1)) 0
  (.op (some 4) (.alloc (.agg [(.int .i64 0), (.lit [])])) 0
  (.op (some 5) (.alloc (.agg [(.int .i64 0), (.lit [])])) 0
  .nil))))) false)
 (.seq (.region (Nodes.flat none (.op (some 7) (.load (some 2) (.t 2)) 0
  (.op (some 8) (.call 93 [(.t 7)]) 1
  (.op (some 9) (.field 0 none (.t 8)) 3
  (.op (some 10) (.load (some 2) (.t 3)) 0
  (.op (some 11) (.call 93 [(.t 10)]) 11
  (.op (some 12) (.field 0 none (.t 11)) 27
  (.op (some 13) (.mm true (.t 9) [(.t 12)]) 63
  (.op (some 6) (.move (.t 13)) 127
  .nil))))))))) true)
 (.seq (.region (Nodes.flat none (.op (some 14) (.load (some 2) (.t 2)) 0
  (.op (some 15) (.move (.t 6)) 0
  (.op (some 16) (.call 94 [(.t 14), (.t 15)]) 3
  (.op (some 17) (.load (some 2) (.t 3)) 0
  (.op (some 18) (.move (.t 6)) 0
  (.op (some 19) (.call 94 [(.t 17), (.t 18)]) 31
  (.op none (.store 2 (.t 4) (.t 16)) 63
  (.op none (.store 2 (.t 5) (.t 19)) 127
  .nil))))))))) true)
 .ret))),
 [.cell (some 2) 4, .cell (some 2) 5]⟩
theorem b42 : fnOf Go.Proofs.Tryz.prog (owOf []) 42 = some c42 := by kernel_rfl
def c49 : RFn := ⟨(.seq (.region (Nodes.flat none (.op (some 2) (.box (.t 0)) 0
  (.op (some 3) (.box (.t 1)) 0
  (.op (some 4) (.alloc (.agg [(.int .i64 0), (.lit [])])) 0
  .nil)))) false)
 (.seq (.region (Nodes.flat none (.op (some 10) (.load (some 2) (.t 2)) 0
  (.op (some 11) (.load (some 2) (.t 3)) 0
  (.op (some 12) (.call 42 [(.t 10), (.t 11)]) 0
  (.op (some 9) (.move (.t 12)) 0
  (.op (some 13) (.extract 0 (.t 9)) 0
  (.op (some 14) (.extract 1 (.t 9)) 0
  (.op (some 5) (.alloc (.agg [(.int .i64 0), (.lit [])])) 0
  (.op (some 6) (.alloc (.agg [(.int .i64 0), (.lit [])])) 0
  (.op none (.store 2 (.t 5) (.t 13)) 0
  (.op none (.store 2 (.t 6) (.t 14)) 0
  .nil))))))))))) false)
 (.seq (.seq (.region (Nodes.flat none (.op (some 15) (.fieldAddr 1 (.t 6)) 0
  (.op (some 16) (.load none (.t 15)) 0
  (.op (some 17) (.len false (.t 16)) 0
  (.op (some 18) (.move (.c (.int .i64 0))) 0
  .nil))))) false)
 (.block 0 (.loop (.seq (.region (Nodes.flat none (.op (some 19) (.bin .lss (.t 18) (.t 17)) 0
  .nil)) false)
 (.seq (.cond (.t 19)
 .skip
 (.exit 0))
 (.seq (.block 1 (.seq (.region (Nodes.flat none (.op (some 20) (.move (.t 18)) 0
  (.op (some 21) (.idxAddr 1 (.t 16) (.t 18)) 0
  (.op (some 22) (.load none (.t 21)) 0
  (.op (some 7) (.move (.t 20)) 0
  (.op (some 8) (.move (.t 22)) 0
  .nil)))))) false)
 (.region (Nodes.flat none (.op (some 23) (.fieldAddr 1 (.t 5)) 0
  (.op (some 24) (.load none (.t 23)) 0
  (.op (some 25) (.move (.t 7)) 0
  (.op (some 26) (.idxAddr 1 (.t 24) (.t 25)) 0
  (.op (some 27) (.load none (.t 26)) 0
  (.op (some 28) (.move (.t 8)) 0
  (.op (some 29) (.bin .andNot (.t 27) (.t 28)) 0
  (.op (some 30) (.idxAddr 1 (.t 24) (.t 25)) 0
  (.op none (.store 1 (.t 30) (.t 29)) 0
  .nil)))))))))) false)))
 (.region (Nodes.flat none (.op (some 31) (.bin .add (.t 18) (.c (.int .i64 1))) 0
  (.op (some 18) (.move (.t 31)) 0
  .nil))) false)))))))
 (.seq (.region (Nodes.flat none (.op (some 32) (.load (some 2) (.t 5)) 0
  (.op none (.store 2 (.t 4) (.t 32)) 0
  .nil))) false)
 .ret)))),
 [.cell (some 2) 4]⟩
theorem b49 : fnOf Go.Proofs.Tryz.prog (owOf []) 49 = some c49 := by kernel_rfl
end Go.Vm
end
section
/- Walks. -/
set_option maxRecDepth 100000
set_option linter.unusedSimpArgs false
set_option linter.unusedVariables false
namespace Go.Vm
open Go
section
variable {gl : Nat → Option PV}
set_option maxHeartbeats 4000000
theorem f_bits_both (m : Int) (ws : List Nat) (n : Int) (us : List Nat) (hw : W64 ws) (hu : W64 us) : Fresh Go.Proofs.Tryz.prog gl 42 [sv m ws, sv n us] (.tup [.agg [.int .i64 (max (nN m ws) (nN n us)), .ref 7 0 0 (wN (max (nN m ws) (nN n us)))], .agg [.int .i64 (max (nN m ws) (nN n us)), .ref 11 0 0 (wN (max (nN m ws) (nN n us)))]])
    (Hp.ofL [none, none, none, none, none, none, none, some ⟨0, 1, u64s (words (wN (max (nN m ws) (nN n us))) (vN m ws))⟩, none, none, none, some ⟨0, 1, u64s (words (wN (max (nN m ws) (nN n us))) (vN n us))⟩]) := by
  have h1 := nN_r m ws
  have h2 := nN_r n us
  have ha := f_bits_own (gl := gl) m ws (max (nN m ws) (nN n us)) hw (by omega) (by omega)
  have hb := f_bits_own (gl := gl) n us (max (nN m ws) (nN n us)) hu (by omega) (by omega)
  refine Fresh.fnL hmix b42 ?_
  repeat' first
    | with_reducible refine tr_seq ?_
    | ((with_reducible refine tr_region_f ?_ ?_); kernel_rfl)
    | ((with_reducible refine tr_region_t ?_ ?_ ?_); kernel_rfl; kernel_rfl)
    | with_reducible refine n_nil ?_
    | with_reducible refine seqQ_normal ?_
    | with_reducible refine seqQ_ret ?_
    | with_reducible refine blkQ_ret ?_
    | with_reducible refine tr_ret ?_
    | (first | ((with_reducible apply n_bin); rfl; rfl; focus ((with_reducible (first | apply b_add | apply b_sub | apply b_quo64 | apply b_rem64 | apply b_shl1 | apply b_shr | apply b_or64 | apply b_and64 | apply b_andNot64)) <;> first | omega | decide | exact pow_lt64 _ | exact getD_lt (by first | assumption | exact words_lt _ _ | exact mixW_lt or64 | exact mixW_lt and64 | exact mixW_lt minus64) _ | (simp only [decide_eq_true_eq, decide_eq_false_iff_not, Bool.or_eq_false_iff, Bool.and_eq_true, Bool.not_eq_true', Bool.not_eq_false', bne_iff_ne, ne_eq, bne_eq_false_iff_eq, beq_iff_eq, beq_eq_false_iff_ne, u64s_length, words_length, mixW_length, List.length_replicate] at *; omega))) | ((with_reducible apply n_min); rfl; rfl) | ((with_reducible apply n_max); rfl; rfl) | ((first | ((with_reducible apply n_conv); rfl; with_reducible apply wrap_u64_of) | ((with_reducible apply n_idx_u64); rfl; rfl) | ((with_reducible apply n_idx_own); rfl; rfl; rfl) | ((with_reducible apply n_load_u64); rfl; rfl) | ((with_reducible apply n_store_u64); rfl; rfl; rfl) | ((with_reducible apply n_mk64); rfl; rfl)); first | omega | decide | exact pow_lt64 _ | exact getD_lt (by first | assumption | exact words_lt _ _ | exact mixW_lt or64 | exact mixW_lt and64 | exact mixW_lt minus64) _ | (simp only [decide_eq_true_eq, decide_eq_false_iff_not, Bool.or_eq_false_iff, Bool.and_eq_true, Bool.not_eq_true', Bool.not_eq_false', bne_iff_ne, ne_eq, bne_eq_false_iff_eq, beq_iff_eq, beq_eq_false_iff_ne, u64s_length, words_length, mixW_length, List.length_replicate] at *; omega)) | ((with_reducible apply fnQ_ret_set); rfl; rfl; (first | rfl | exact (by simp only [words_length, mixW_length, List.length_replicate, List.length_set]))))
    | ((with_reducible apply n_val); rfl; rfl)
    | ((with_reducible apply n_new); rfl; (first | (simp only [hn0, hn1, hn2, hn3, hn4, hn5, List.length_cons, List.length_nil, Nat.reduceAdd, Nat.zero_add]; done) | (simp only [hn0, hn1, hn2, hn3, hn4, hn5, List.length_cons, List.length_nil, Nat.reduceAdd, Nat.zero_add]; rfl) | rfl); rfl)
    | ((with_reducible apply n_store); rfl; rfl; rfl; rfl; rfl)
    | ((with_reducible apply n_call (f := 93)); rfl; rfl; exact p_bits_sane m ws hw)
    | ((with_reducible apply n_call (f := 93)); rfl; rfl; exact p_bits_sane n us hu)
    | ((with_reducible apply n_freshL ); (first | (simp only [hn0, hn1, hn2, hn3, hn4, hn5, List.length_cons, List.length_nil, Nat.reduceAdd, Nat.zero_add]; done) | (simp only [hn0, hn1, hn2, hn3, hn4, hn5, List.length_cons, List.length_nil, Nat.reduceAdd, Nat.zero_add]; rfl) | rfl); rfl; rfl; exact ha; rfl; (repeat (first | exact ShL.nil | apply ShL.none | (apply ShL.some; (first | rfl | exact shiftPs_pure (u64s_pure _) | exact shiftPs_pure (ints_pure _) | exact shiftPs_pure (vals_pure (fun _ => rfl) _))))))
    | ((with_reducible apply n_freshL ); (first | (simp only [hn0, hn1, hn2, hn3, hn4, hn5, List.length_cons, List.length_nil, Nat.reduceAdd, Nat.zero_add]; done) | (simp only [hn0, hn1, hn2, hn3, hn4, hn5, List.length_cons, List.length_nil, Nat.reduceAdd, Nat.zero_add]; rfl) | rfl); rfl; rfl; exact hb; rfl; (repeat (first | exact ShL.nil | apply ShL.none | (apply ShL.some; (first | rfl | exact shiftPs_pure (u64s_pure _) | exact shiftPs_pure (ints_pure _) | exact shiftPs_pure (vals_pure (fun _ => rfl) _))))))
    | ((with_reducible apply fnQ_told_ret); rfl)
    | ((with_reducible apply fnQ_ret_soft); rfl; rfl)
  · rfl
  · exact ⟨⟨_, rfl, rfl, rfl, fzP_pure (u64s_pure _)⟩, ⟨_, rfl, rfl, rfl, fzP_pure (u64s_pure _)⟩, trivial⟩
theorem p_bits_Union (m : Int) (ws : List Nat) (n : Int) (us : List Nat) (hw : W64 ws) (hu : W64 us) : Pure Go.Proofs.Tryz.prog gl 16 [sv m ws, sv n us] (mk (max (nN m ws) (nN n us)) (vN m ws ||| vN n us)) := by
  have h1 := nN_r m ws
  have h2 := nN_r n us
  have hb := f_bits_both (gl := gl) m ws n us hw hu
  have hk := wN_small (n := max (nN m ws) (nN n us)) (by omega)
  generalize hN : max (nN m ws) (nN n us) = N at *
  generalize hK : wN N = K at *
  generalize hva : vN m ws = va at *
  generalize hvb : vN n us = vb at *
  refine Pure.fn hmix b16 ?_
  repeat' first
    | with_reducible refine tr_seq ?_
    | ((with_reducible refine tr_region_f ?_ ?_); kernel_rfl)
    | with_reducible refine n_nil ?_
    | with_reducible refine seqQ_normal ?_
    | with_reducible refine seqQ_exit ?_
    | with_reducible refine seqQ_ret ?_
    | with_reducible refine blkQ_normal ?_
    | with_reducible refine blkQ_exit ?_
    | with_reducible refine blkQ_ret ?_
    | ((with_reducible refine blkQ_exit_ne ?_ ?_); rfl)
    | with_reducible refine tr_block ?_
    | with_reducible refine tr_skip ?_
    | with_reducible refine tr_exit ?_
    | with_reducible refine tr_ret ?_
    | ((with_reducible apply tr_cond_e); rfl)
    | with_reducible refine condT_t ?_
    | with_reducible refine condT_f ?_
    | with_reducible refine loopV_exit ?_
    | with_reducible refine loopV_ret ?_
    | (first | ((with_reducible apply n_bin); rfl; rfl; focus ((with_reducible (first | apply b_add | apply b_sub | apply b_quo64 | apply b_rem64 | apply b_shl1 | apply b_shr | apply b_or64 | apply b_and64 | apply b_andNot64)) <;> first | omega | decide | exact pow_lt64 _ | exact getD_lt (by first | assumption | exact words_lt _ _ | exact mixW_lt or64 | exact mixW_lt and64 | exact mixW_lt minus64) _ | (simp only [decide_eq_true_eq, decide_eq_false_iff_not, Bool.or_eq_false_iff, Bool.and_eq_true, Bool.not_eq_true', Bool.not_eq_false', bne_iff_ne, ne_eq, bne_eq_false_iff_eq, beq_iff_eq, beq_eq_false_iff_ne, u64s_length, words_length, mixW_length, List.length_replicate] at *; omega))) | ((with_reducible apply n_min); rfl; rfl) | ((with_reducible apply n_max); rfl; rfl) | ((first | ((with_reducible apply n_conv); rfl; with_reducible apply wrap_u64_of) | ((with_reducible apply n_idx_u64); rfl; rfl) | ((with_reducible apply n_idx_own); rfl; rfl; rfl) | ((with_reducible apply n_load_u64); rfl; rfl) | ((with_reducible apply n_store_u64); rfl; rfl; rfl) | ((with_reducible apply n_mk64); rfl; rfl)); first | omega | decide | exact pow_lt64 _ | exact getD_lt (by first | assumption | exact words_lt _ _ | exact mixW_lt or64 | exact mixW_lt and64 | exact mixW_lt minus64) _ | (simp only [decide_eq_true_eq, decide_eq_false_iff_not, Bool.or_eq_false_iff, Bool.and_eq_true, Bool.not_eq_true', Bool.not_eq_false', bne_iff_ne, ne_eq, bne_eq_false_iff_eq, beq_iff_eq, beq_eq_false_iff_ne, u64s_length, words_length, mixW_length, List.length_replicate] at *; omega)) | ((with_reducible apply fnQ_ret_set); rfl; rfl; (first | rfl | exact (by simp only [words_length, mixW_length, List.length_replicate, List.length_set]))))
    | (refine tr_loop_v (α := Int) 17 (fun | i => [(18, some (.int .i64 i)), (19, none), (20, none), (21, none), (22, none), (7, none), (8, none), (23, none), (24, none), (25, none), (26, none), (27, none), (28, none), (29, none), (30, none), (31, none)]) (fun | i => [none, none, some ⟨0, 2, [.agg [.int .i64 0, .lit []]]⟩, none, none, none, none, none, none, none, some ⟨0, 1, u64s (mixW (· ||| ·) K va vb i)⟩, none, none, none, some ⟨0, 1, u64s (words K vb)⟩, some ⟨0, 2, [.agg [.int .i64 N, .ref 10 0 0 K]]⟩, none]) (fun | i => 0 ≤ i ∧ i ≤ K) (fun | i => (K - i).toNat) (0) (ks := [18, 19, 20, 21, 22, 7, 8, 23, 24, 25, 26, 27, 28, 29, 30, 31]) (fun _ => rfl) (fun _ => rfl) rfl (by omega) ?_ ⟨⟨_, rfl, rfl⟩, trivial⟩ ⟨⟨_, rfl, rfl, rfl, (by first | exact fzP_u64 (mixW_step (by first | omega | decide | exact pow_lt64 _ | exact getD_lt (by first | assumption | exact words_lt _ _ | exact mixW_lt or64 | exact mixW_lt and64 | exact mixW_lt minus64) _ | (simp only [decide_eq_true_eq, decide_eq_false_iff_not, Bool.or_eq_false_iff, Bool.and_eq_true, Bool.not_eq_true', Bool.not_eq_false', bne_iff_ne, ne_eq, bne_eq_false_iff_eq, beq_iff_eq, beq_eq_false_iff_ne, u64s_length, words_length, mixW_length, List.length_replicate] at *; omega)) (by first | omega | decide | exact pow_lt64 _ | exact getD_lt (by first | assumption | exact words_lt _ _ | exact mixW_lt or64 | exact mixW_lt and64 | exact mixW_lt minus64) _ | (simp only [decide_eq_true_eq, decide_eq_false_iff_not, Bool.or_eq_false_iff, Bool.and_eq_true, Bool.not_eq_true', Bool.not_eq_false', bne_iff_ne, ne_eq, bne_eq_false_iff_eq, beq_iff_eq, beq_eq_false_iff_ne, u64s_length, words_length, mixW_length, List.length_replicate] at *; omega))) | exact fzP_u64 mixW_zero.symm |  rfl | exact fzP_pure (ints_pure _) | exact fzP_pure (u64s_pure _) | exact fzP_pure (by assumption) | exact fzP_pure (by first | (simp [pureE, pure1, ints]; done) | (simp_all [pe_int, pe_bool, pe_str, pe_sl, pe_agg, p1_int, p1_bool, p1_str, p1_sl]; done)))⟩, ⟨_, rfl, rfl, rfl, (by first | exact fzP_u64 (mixW_step (by first | omega | decide | exact pow_lt64 _ | exact getD_lt (by first | assumption | exact words_lt _ _ | exact mixW_lt or64 | exact mixW_lt and64 | exact mixW_lt minus64) _ | (simp only [decide_eq_true_eq, decide_eq_false_iff_not, Bool.or_eq_false_iff, Bool.and_eq_true, Bool.not_eq_true', Bool.not_eq_false', bne_iff_ne, ne_eq, bne_eq_false_iff_eq, beq_iff_eq, beq_eq_false_iff_ne, u64s_length, words_length, mixW_length, List.length_replicate] at *; omega)) (by first | omega | decide | exact pow_lt64 _ | exact getD_lt (by first | assumption | exact words_lt _ _ | exact mixW_lt or64 | exact mixW_lt and64 | exact mixW_lt minus64) _ | (simp only [decide_eq_true_eq, decide_eq_false_iff_not, Bool.or_eq_false_iff, Bool.and_eq_true, Bool.not_eq_true', Bool.not_eq_false', bne_iff_ne, ne_eq, bne_eq_false_iff_eq, beq_iff_eq, beq_eq_false_iff_ne, u64s_length, words_length, mixW_length, List.length_replicate] at *; omega))) | exact fzP_u64 mixW_zero.symm |  rfl | exact fzP_pure (ints_pure _) | exact fzP_pure (u64s_pure _) | exact fzP_pure (by assumption) | exact fzP_pure (by first | (simp [pureE, pure1, ints]; done) | (simp_all [pe_int, pe_bool, pe_str, pe_sl, pe_agg, p1_int, p1_bool, p1_str, p1_sl]; done)))⟩, ⟨_, rfl, rfl, rfl, (by first | exact fzP_u64 (mixW_step (by first | omega | decide | exact pow_lt64 _ | exact getD_lt (by first | assumption | exact words_lt _ _ | exact mixW_lt or64 | exact mixW_lt and64 | exact mixW_lt minus64) _ | (simp only [decide_eq_true_eq, decide_eq_false_iff_not, Bool.or_eq_false_iff, Bool.and_eq_true, Bool.not_eq_true', Bool.not_eq_false', bne_iff_ne, ne_eq, bne_eq_false_iff_eq, beq_iff_eq, beq_eq_false_iff_ne, u64s_length, words_length, mixW_length, List.length_replicate] at *; omega)) (by first | omega | decide | exact pow_lt64 _ | exact getD_lt (by first | assumption | exact words_lt _ _ | exact mixW_lt or64 | exact mixW_lt and64 | exact mixW_lt minus64) _ | (simp only [decide_eq_true_eq, decide_eq_false_iff_not, Bool.or_eq_false_iff, Bool.and_eq_true, Bool.not_eq_true', Bool.not_eq_false', bne_iff_ne, ne_eq, bne_eq_false_iff_eq, beq_iff_eq, beq_eq_false_iff_ne, u64s_length, words_length, mixW_length, List.length_replicate] at *; omega))) | exact fzP_u64 mixW_zero.symm |  rfl | exact fzP_pure (ints_pure _) | exact fzP_pure (u64s_pure _) | exact fzP_pure (by assumption) | exact fzP_pure (by first | (simp [pureE, pure1, ints]; done) | (simp_all [pe_int, pe_bool, pe_str, pe_sl, pe_agg, p1_int, p1_bool, p1_str, p1_sl]; done)))⟩, ⟨_, rfl, rfl, rfl, (by first | exact fzP_u64 (mixW_step (by first | omega | decide | exact pow_lt64 _ | exact getD_lt (by first | assumption | exact words_lt _ _ | exact mixW_lt or64 | exact mixW_lt and64 | exact mixW_lt minus64) _ | (simp only [decide_eq_true_eq, decide_eq_false_iff_not, Bool.or_eq_false_iff, Bool.and_eq_true, Bool.not_eq_true', Bool.not_eq_false', bne_iff_ne, ne_eq, bne_eq_false_iff_eq, beq_iff_eq, beq_eq_false_iff_ne, u64s_length, words_length, mixW_length, List.length_replicate] at *; omega)) (by first | omega | decide | exact pow_lt64 _ | exact getD_lt (by first | assumption | exact words_lt _ _ | exact mixW_lt or64 | exact mixW_lt and64 | exact mixW_lt minus64) _ | (simp only [decide_eq_true_eq, decide_eq_false_iff_not, Bool.or_eq_false_iff, Bool.and_eq_true, Bool.not_eq_true', Bool.not_eq_false', bne_iff_ne, ne_eq, bne_eq_false_iff_eq, beq_iff_eq, beq_eq_false_iff_ne, u64s_length, words_length, mixW_length, List.length_replicate] at *; omega))) | exact fzP_u64 mixW_zero.symm |  rfl | exact fzP_pure (ints_pure _) | exact fzP_pure (u64s_pure _) | exact fzP_pure (by assumption) | exact fzP_pure (by first | (simp [pureE, pure1, ints]; done) | (simp_all [pe_int, pe_bool, pe_str, pe_sl, pe_agg, p1_int, p1_bool, p1_str, p1_sl]; done)))⟩, trivial⟩ ?_; rotate_left; rintro i hx; try dsimp only at hx)
    | ((first | (refine loopV_normal (_) ?_ ⟨⟨_, rfl, rfl⟩, trivial⟩ ⟨⟨_, rfl, rfl, rfl, (by first | exact fzP_u64 (mixW_step (by first | omega | decide | exact pow_lt64 _ | exact getD_lt (by first | assumption | exact words_lt _ _ | exact mixW_lt or64 | exact mixW_lt and64 | exact mixW_lt minus64) _ | (simp only [decide_eq_true_eq, decide_eq_false_iff_not, Bool.or_eq_false_iff, Bool.and_eq_true, Bool.not_eq_true', Bool.not_eq_false', bne_iff_ne, ne_eq, bne_eq_false_iff_eq, beq_iff_eq, beq_eq_false_iff_ne, u64s_length, words_length, mixW_length, List.length_replicate] at *; omega)) (by first | omega | decide | exact pow_lt64 _ | exact getD_lt (by first | assumption | exact words_lt _ _ | exact mixW_lt or64 | exact mixW_lt and64 | exact mixW_lt minus64) _ | (simp only [decide_eq_true_eq, decide_eq_false_iff_not, Bool.or_eq_false_iff, Bool.and_eq_true, Bool.not_eq_true', Bool.not_eq_false', bne_iff_ne, ne_eq, bne_eq_false_iff_eq, beq_iff_eq, beq_eq_false_iff_ne, u64s_length, words_length, mixW_length, List.length_replicate] at *; omega))) | exact fzP_u64 mixW_zero.symm |  rfl | exact fzP_pure (ints_pure _) | exact fzP_pure (u64s_pure _) | exact fzP_pure (by assumption) | exact fzP_pure (by first | (simp [pureE, pure1, ints]; done) | (simp_all [pe_int, pe_bool, pe_str, pe_sl, pe_agg, p1_int, p1_bool, p1_str, p1_sl]; done)))⟩, ⟨_, rfl, rfl, rfl, (by first | exact fzP_u64 (mixW_step (by first | omega | decide | exact pow_lt64 _ | exact getD_lt (by first | assumption | exact words_lt _ _ | exact mixW_lt or64 | exact mixW_lt and64 | exact mixW_lt minus64) _ | (simp only [decide_eq_true_eq, decide_eq_false_iff_not, Bool.or_eq_false_iff, Bool.and_eq_true, Bool.not_eq_true', Bool.not_eq_false', bne_iff_ne, ne_eq, bne_eq_false_iff_eq, beq_iff_eq, beq_eq_false_iff_ne, u64s_length, words_length, mixW_length, List.length_replicate] at *; omega)) (by first | omega | decide | exact pow_lt64 _ | exact getD_lt (by first | assumption | exact words_lt _ _ | exact mixW_lt or64 | exact mixW_lt and64 | exact mixW_lt minus64) _ | (simp only [decide_eq_true_eq, decide_eq_false_iff_not, Bool.or_eq_false_iff, Bool.and_eq_true, Bool.not_eq_true', Bool.not_eq_false', bne_iff_ne, ne_eq, bne_eq_false_iff_eq, beq_iff_eq, beq_eq_false_iff_ne, u64s_length, words_length, mixW_length, List.length_replicate] at *; omega))) | exact fzP_u64 mixW_zero.symm |  rfl | exact fzP_pure (ints_pure _) | exact fzP_pure (u64s_pure _) | exact fzP_pure (by assumption) | exact fzP_pure (by first | (simp [pureE, pure1, ints]; done) | (simp_all [pe_int, pe_bool, pe_str, pe_sl, pe_agg, p1_int, p1_bool, p1_str, p1_sl]; done)))⟩, ⟨_, rfl, rfl, rfl, (by first | exact fzP_u64 (mixW_step (by first | omega | decide | exact pow_lt64 _ | exact getD_lt (by first | assumption | exact words_lt _ _ | exact mixW_lt or64 | exact mixW_lt and64 | exact mixW_lt minus64) _ | (simp only [decide_eq_true_eq, decide_eq_false_iff_not, Bool.or_eq_false_iff, Bool.and_eq_true, Bool.not_eq_true', Bool.not_eq_false', bne_iff_ne, ne_eq, bne_eq_false_iff_eq, beq_iff_eq, beq_eq_false_iff_ne, u64s_length, words_length, mixW_length, List.length_replicate] at *; omega)) (by first | omega | decide | exact pow_lt64 _ | exact getD_lt (by first | assumption | exact words_lt _ _ | exact mixW_lt or64 | exact mixW_lt and64 | exact mixW_lt minus64) _ | (simp only [decide_eq_true_eq, decide_eq_false_iff_not, Bool.or_eq_false_iff, Bool.and_eq_true, Bool.not_eq_true', Bool.not_eq_false', bne_iff_ne, ne_eq, bne_eq_false_iff_eq, beq_iff_eq, beq_eq_false_iff_ne, u64s_length, words_length, mixW_length, List.length_replicate] at *; omega))) | exact fzP_u64 mixW_zero.symm |  rfl | exact fzP_pure (ints_pure _) | exact fzP_pure (u64s_pure _) | exact fzP_pure (by assumption) | exact fzP_pure (by first | (simp [pureE, pure1, ints]; done) | (simp_all [pe_int, pe_bool, pe_str, pe_sl, pe_agg, p1_int, p1_bool, p1_str, p1_sl]; done)))⟩, ⟨_, rfl, rfl, rfl, (by first | exact fzP_u64 (mixW_step (by first | omega | decide | exact pow_lt64 _ | exact getD_lt (by first | assumption | exact words_lt _ _ | exact mixW_lt or64 | exact mixW_lt and64 | exact mixW_lt minus64) _ | (simp only [decide_eq_true_eq, decide_eq_false_iff_not, Bool.or_eq_false_iff, Bool.and_eq_true, Bool.not_eq_true', Bool.not_eq_false', bne_iff_ne, ne_eq, bne_eq_false_iff_eq, beq_iff_eq, beq_eq_false_iff_ne, u64s_length, words_length, mixW_length, List.length_replicate] at *; omega)) (by first | omega | decide | exact pow_lt64 _ | exact getD_lt (by first | assumption | exact words_lt _ _ | exact mixW_lt or64 | exact mixW_lt and64 | exact mixW_lt minus64) _ | (simp only [decide_eq_true_eq, decide_eq_false_iff_not, Bool.or_eq_false_iff, Bool.and_eq_true, Bool.not_eq_true', Bool.not_eq_false', bne_iff_ne, ne_eq, bne_eq_false_iff_eq, beq_iff_eq, beq_eq_false_iff_ne, u64s_length, words_length, mixW_length, List.length_replicate] at *; omega))) | exact fzP_u64 mixW_zero.symm |  rfl | exact fzP_pure (ints_pure _) | exact fzP_pure (u64s_pure _) | exact fzP_pure (by assumption) | exact fzP_pure (by first | (simp [pureE, pure1, ints]; done) | (simp_all [pe_int, pe_bool, pe_str, pe_sl, pe_agg, p1_int, p1_bool, p1_str, p1_sl]; done)))⟩, trivial⟩ ?_ ?_)); repeat (first | exact only_refl | refine only_put rfl ?_ | refine only_less rfl ?_ | refine only_ov rfl ?_))
    | ((with_reducible apply n_val); rfl; rfl)
    | ((with_reducible apply n_new); rfl; (first | (simp only [hn0, hn1, hn2, hn3, hn4, hn5, List.length_cons, List.length_nil, Nat.reduceAdd, Nat.zero_add]; done) | (simp only [hn0, hn1, hn2, hn3, hn4, hn5, List.length_cons, List.length_nil, Nat.reduceAdd, Nat.zero_add]; rfl) | rfl); rfl)
    | ((with_reducible apply n_store); rfl; rfl; rfl; rfl; rfl)
    | ((with_reducible apply n_freshL ); (first | (simp only [hn0, hn1, hn2, hn3, hn4, hn5, List.length_cons, List.length_nil, Nat.reduceAdd, Nat.zero_add]; done) | (simp only [hn0, hn1, hn2, hn3, hn4, hn5, List.length_cons, List.length_nil, Nat.reduceAdd, Nat.zero_add]; rfl) | rfl); rfl; rfl; exact hb; rfl; (repeat (first | exact ShL.nil | apply ShL.none | (apply ShL.some; (first | rfl | exact shiftPs_pure (u64s_pure _) | exact shiftPs_pure (ints_pure _) | exact shiftPs_pure (vals_pure (fun _ => rfl) _))))))
    | (with_reducible refine condT_split (fun h => ?_) (fun h => ?_))
    | ((with_reducible apply fnQ_told_ret); rfl)
    | ((with_reducible apply fnQ_ret_soft); rfl; rfl)
  all_goals (try dsimp only at *)
  all_goals (try simp only [decide_eq_true_eq, decide_eq_false_iff_not] at *)
  · omega
  · omega
  · subst hK
    exact congrArg (sv N) (mixW_full (i := i) (k := wN N) (wrd_or va vb) (by omega))
  · omega
theorem p_bits_Minus (m : Int) (ws : List Nat) (n : Int) (us : List Nat) (hw : W64 ws) (hu : W64 us) : Pure Go.Proofs.Tryz.prog gl 49 [sv m ws, sv n us] (mk (max (nN m ws) (nN n us)) (minus (vN m ws) (vN n us))) := by
  have h1 := nN_r m ws
  have h2 := nN_r n us
  have hb := f_bits_both (gl := gl) m ws n us hw hu
  have hk := wN_small (n := max (nN m ws) (nN n us)) (by omega)
  generalize hN : max (nN m ws) (nN n us) = N at *
  generalize hK : wN N = K at *
  generalize hva : vN m ws = va at *
  generalize hvb : vN n us = vb at *
  refine Pure.fn hmix b49 ?_
  repeat' first
    | with_reducible refine tr_seq ?_
    | ((with_reducible refine tr_region_f ?_ ?_); kernel_rfl)
    | with_reducible refine n_nil ?_
    | with_reducible refine seqQ_normal ?_
    | with_reducible refine seqQ_exit ?_
    | with_reducible refine seqQ_ret ?_
    | with_reducible refine blkQ_normal ?_
    | with_reducible refine blkQ_exit ?_
    | with_reducible refine blkQ_ret ?_
    | ((with_reducible refine blkQ_exit_ne ?_ ?_); rfl)
    | with_reducible refine tr_block ?_
    | with_reducible refine tr_skip ?_
    | with_reducible refine tr_exit ?_
    | with_reducible refine tr_ret ?_
    | ((with_reducible apply tr_cond_e); rfl)
    | with_reducible refine condT_t ?_
    | with_reducible refine condT_f ?_
    | with_reducible refine loopV_exit ?_
    | with_reducible refine loopV_ret ?_
    | (first | ((with_reducible apply n_bin); rfl; rfl; focus ((with_reducible (first | apply b_add | apply b_sub | apply b_quo64 | apply b_rem64 | apply b_shl1 | apply b_shr | apply b_or64 | apply b_and64 | apply b_andNot64)) <;> first | omega | decide | exact pow_lt64 _ | exact getD_lt (by first | assumption | exact words_lt _ _ | exact mixW_lt or64 | exact mixW_lt and64 | exact mixW_lt minus64) _ | (simp only [decide_eq_true_eq, decide_eq_false_iff_not, Bool.or_eq_false_iff, Bool.and_eq_true, Bool.not_eq_true', Bool.not_eq_false', bne_iff_ne, ne_eq, bne_eq_false_iff_eq, beq_iff_eq, beq_eq_false_iff_ne, u64s_length, words_length, mixW_length, List.length_replicate] at *; omega))) | ((with_reducible apply n_min); rfl; rfl) | ((with_reducible apply n_max); rfl; rfl) | ((first | ((with_reducible apply n_conv); rfl; with_reducible apply wrap_u64_of) | ((with_reducible apply n_idx_u64); rfl; rfl) | ((with_reducible apply n_idx_own); rfl; rfl; rfl) | ((with_reducible apply n_load_u64); rfl; rfl) | ((with_reducible apply n_store_u64); rfl; rfl; rfl) | ((with_reducible apply n_mk64); rfl; rfl)); first | omega | decide | exact pow_lt64 _ | exact getD_lt (by first | assumption | exact words_lt _ _ | exact mixW_lt or64 | exact mixW_lt and64 | exact mixW_lt minus64) _ | (simp only [decide_eq_true_eq, decide_eq_false_iff_not, Bool.or_eq_false_iff, Bool.and_eq_true, Bool.not_eq_true', Bool.not_eq_false', bne_iff_ne, ne_eq, bne_eq_false_iff_eq, beq_iff_eq, beq_eq_false_iff_ne, u64s_length, words_length, mixW_length, List.length_replicate] at *; omega)) | ((with_reducible apply fnQ_ret_set); rfl; rfl; (first | rfl | exact (by simp only [words_length, mixW_length, List.length_replicate, List.length_set]))))
    | (refine tr_loop_v (α := Int) 17 (fun | i => [(18, some (.int .i64 i)), (19, none), (20, none), (21, none), (22, none), (7, none), (8, none), (23, none), (24, none), (25, none), (26, none), (27, none), (28, none), (29, none), (30, none), (31, none)]) (fun | i => [none, none, some ⟨0, 2, [.agg [.int .i64 0, .lit []]]⟩, none, none, none, none, none, none, none, some ⟨0, 1, u64s (mixW minus K va vb i)⟩, none, none, none, some ⟨0, 1, u64s (words K vb)⟩, some ⟨0, 2, [.agg [.int .i64 N, .ref 10 0 0 K]]⟩, none]) (fun | i => 0 ≤ i ∧ i ≤ K) (fun | i => (K - i).toNat) (0) (ks := [18, 19, 20, 21, 22, 7, 8, 23, 24, 25, 26, 27, 28, 29, 30, 31]) (fun _ => rfl) (fun _ => rfl) rfl (by omega) ?_ ⟨⟨_, rfl, rfl⟩, trivial⟩ ⟨⟨_, rfl, rfl, rfl, (by first | exact fzP_u64 (mixW_step (by first | omega | decide | exact pow_lt64 _ | exact getD_lt (by first | assumption | exact words_lt _ _ | exact mixW_lt or64 | exact mixW_lt and64 | exact mixW_lt minus64) _ | (simp only [decide_eq_true_eq, decide_eq_false_iff_not, Bool.or_eq_false_iff, Bool.and_eq_true, Bool.not_eq_true', Bool.not_eq_false', bne_iff_ne, ne_eq, bne_eq_false_iff_eq, beq_iff_eq, beq_eq_false_iff_ne, u64s_length, words_length, mixW_length, List.length_replicate] at *; omega)) (by first | omega | decide | exact pow_lt64 _ | exact getD_lt (by first | assumption | exact words_lt _ _ | exact mixW_lt or64 | exact mixW_lt and64 | exact mixW_lt minus64) _ | (simp only [decide_eq_true_eq, decide_eq_false_iff_not, Bool.or_eq_false_iff, Bool.and_eq_true, Bool.not_eq_true', Bool.not_eq_false', bne_iff_ne, ne_eq, bne_eq_false_iff_eq, beq_iff_eq, beq_eq_false_iff_ne, u64s_length, words_length, mixW_length, List.length_replicate] at *; omega))) | exact fzP_u64 mixW_zero.symm |  rfl | exact fzP_pure (ints_pure _) | exact fzP_pure (u64s_pure _) | exact fzP_pure (by assumption) | exact fzP_pure (by first | (simp [pureE, pure1, ints]; done) | (simp_all [pe_int, pe_bool, pe_str, pe_sl, pe_agg, p1_int, p1_bool, p1_str, p1_sl]; done)))⟩, ⟨_, rfl, rfl, rfl, (by first | exact fzP_u64 (mixW_step (by first | omega | decide | exact pow_lt64 _ | exact getD_lt (by first | assumption | exact words_lt _ _ | exact mixW_lt or64 | exact mixW_lt and64 | exact mixW_lt minus64) _ | (simp only [decide_eq_true_eq, decide_eq_false_iff_not, Bool.or_eq_false_iff, Bool.and_eq_true, Bool.not_eq_true', Bool.not_eq_false', bne_iff_ne, ne_eq, bne_eq_false_iff_eq, beq_iff_eq, beq_eq_false_iff_ne, u64s_length, words_length, mixW_length, List.length_replicate] at *; omega)) (by first | omega | decide | exact pow_lt64 _ | exact getD_lt (by first | assumption | exact words_lt _ _ | exact mixW_lt or64 | exact mixW_lt and64 | exact mixW_lt minus64) _ | (simp only [decide_eq_true_eq, decide_eq_false_iff_not, Bool.or_eq_false_iff, Bool.and_eq_true, Bool.not_eq_true', Bool.not_eq_false', bne_iff_ne, ne_eq, bne_eq_false_iff_eq, beq_iff_eq, beq_eq_false_iff_ne, u64s_length, words_length, mixW_length, List.length_replicate] at *; omega))) | exact fzP_u64 mixW_zero.symm |  rfl | exact fzP_pure (ints_pure _) | exact fzP_pure (u64s_pure _) | exact fzP_pure (by assumption) | exact fzP_pure (by first | (simp [pureE, pure1, ints]; done) | (simp_all [pe_int, pe_bool, pe_str, pe_sl, pe_agg, p1_int, p1_bool, p1_str, p1_sl]; done)))⟩, ⟨_, rfl, rfl, rfl, (by first | exact fzP_u64 (mixW_step (by first | omega | decide | exact pow_lt64 _ | exact getD_lt (by first | assumption | exact words_lt _ _ | exact mixW_lt or64 | exact mixW_lt and64 | exact mixW_lt minus64) _ | (simp only [decide_eq_true_eq, decide_eq_false_iff_not, Bool.or_eq_false_iff, Bool.and_eq_true, Bool.not_eq_true', Bool.not_eq_false', bne_iff_ne, ne_eq, bne_eq_false_iff_eq, beq_iff_eq, beq_eq_false_iff_ne, u64s_length, words_length, mixW_length, List.length_replicate] at *; omega)) (by first | omega | decide | exact pow_lt64 _ | exact getD_lt (by first | assumption | exact words_lt _ _ | exact mixW_lt or64 | exact mixW_lt and64 | exact mixW_lt minus64) _ | (simp only [decide_eq_true_eq, decide_eq_false_iff_not, Bool.or_eq_false_iff, Bool.and_eq_true, Bool.not_eq_true', Bool.not_eq_false', bne_iff_ne, ne_eq, bne_eq_false_iff_eq, beq_iff_eq, beq_eq_false_iff_ne, u64s_length, words_length, mixW_length, List.length_replicate] at *; omega))) | exact fzP_u64 mixW_zero.symm |  rfl | exact fzP_pure (ints_pure _) | exact fzP_pure (u64s_pure _) | exact fzP_pure (by assumption) | exact fzP_pure (by first | (simp [pureE, pure1, ints]; done) | (simp_all [pe_int, pe_bool, pe_str, pe_sl, pe_agg, p1_int, p1_bool, p1_str, p1_sl]; done)))⟩, ⟨_, rfl, rfl, rfl, (by first | exact fzP_u64 (mixW_step (by first | omega | decide | exact pow_lt64 _ | exact getD_lt (by first | assumption | exact words_lt _ _ | exact mixW_lt or64 | exact mixW_lt and64 | exact mixW_lt minus64) _ | (simp only [decide_eq_true_eq, decide_eq_false_iff_not, Bool.or_eq_false_iff, Bool.and_eq_true, Bool.not_eq_true', Bool.not_eq_false', bne_iff_ne, ne_eq, bne_eq_false_iff_eq, beq_iff_eq, beq_eq_false_iff_ne, u64s_length, words_length, mixW_length, List.length_replicate] at *; omega)) (by first | omega | decide | exact pow_lt64 _ | exact getD_lt (by first | assumption | exact words_lt _ _ | exact mixW_lt or64 | exact mixW_lt and64 | exact mixW_lt minus64) _ | (simp only [decide_eq_true_eq, decide_eq_false_iff_not, Bool.or_eq_false_iff, Bool.and_eq_true, Bool.not_eq_true', Bool.not_eq_false', bne_iff_ne, ne_eq, bne_eq_false_iff_eq, beq_iff_eq, beq_eq_false_iff_ne, u64s_length, words_length, mixW_length, List.length_replicate] at *; omega))) | exact fzP_u64 mixW_zero.symm |  rfl | exact fzP_pure (ints_pure _) | exact fzP_pure (u64s_pure _) | exact fzP_pure (by assumption) | exact fzP_pure (by first | (simp [pureE, pure1, ints]; done) | (simp_all [pe_int, pe_bool, pe_str, pe_sl, pe_agg, p1_int, p1_bool, p1_str, p1_sl]; done)))⟩, trivial⟩ ?_; rotate_left; rintro i hx; try dsimp only at hx)
    | ((first | (refine loopV_normal (_) ?_ ⟨⟨_, rfl, rfl⟩, trivial⟩ ⟨⟨_, rfl, rfl, rfl, (by first | exact fzP_u64 (mixW_step (by first | omega | decide | exact pow_lt64 _ | exact getD_lt (by first | assumption | exact words_lt _ _ | exact mixW_lt or64 | exact mixW_lt and64 | exact mixW_lt minus64) _ | (simp only [decide_eq_true_eq, decide_eq_false_iff_not, Bool.or_eq_false_iff, Bool.and_eq_true, Bool.not_eq_true', Bool.not_eq_false', bne_iff_ne, ne_eq, bne_eq_false_iff_eq, beq_iff_eq, beq_eq_false_iff_ne, u64s_length, words_length, mixW_length, List.length_replicate] at *; omega)) (by first | omega | decide | exact pow_lt64 _ | exact getD_lt (by first | assumption | exact words_lt _ _ | exact mixW_lt or64 | exact mixW_lt and64 | exact mixW_lt minus64) _ | (simp only [decide_eq_true_eq, decide_eq_false_iff_not, Bool.or_eq_false_iff, Bool.and_eq_true, Bool.not_eq_true', Bool.not_eq_false', bne_iff_ne, ne_eq, bne_eq_false_iff_eq, beq_iff_eq, beq_eq_false_iff_ne, u64s_length, words_length, mixW_length, List.length_replicate] at *; omega))) | exact fzP_u64 mixW_zero.symm |  rfl | exact fzP_pure (ints_pure _) | exact fzP_pure (u64s_pure _) | exact fzP_pure (by assumption) | exact fzP_pure (by first | (simp [pureE, pure1, ints]; done) | (simp_all [pe_int, pe_bool, pe_str, pe_sl, pe_agg, p1_int, p1_bool, p1_str, p1_sl]; done)))⟩, ⟨_, rfl, rfl, rfl, (by first | exact fzP_u64 (mixW_step (by first | omega | decide | exact pow_lt64 _ | exact getD_lt (by first | assumption | exact words_lt _ _ | exact mixW_lt or64 | exact mixW_lt and64 | exact mixW_lt minus64) _ | (simp only [decide_eq_true_eq, decide_eq_false_iff_not, Bool.or_eq_false_iff, Bool.and_eq_true, Bool.not_eq_true', Bool.not_eq_false', bne_iff_ne, ne_eq, bne_eq_false_iff_eq, beq_iff_eq, beq_eq_false_iff_ne, u64s_length, words_length, mixW_length, List.length_replicate] at *; omega)) (by first | omega | decide | exact pow_lt64 _ | exact getD_lt (by first | assumption | exact words_lt _ _ | exact mixW_lt or64 | exact mixW_lt and64 | exact mixW_lt minus64) _ | (simp only [decide_eq_true_eq, decide_eq_false_iff_not, Bool.or_eq_false_iff, Bool.and_eq_true, Bool.not_eq_true', Bool.not_eq_false', bne_iff_ne, ne_eq, bne_eq_false_iff_eq, beq_iff_eq, beq_eq_false_iff_ne, u64s_length, words_length, mixW_length, List.length_replicate] at *; omega))) | exact fzP_u64 mixW_zero.symm |  rfl | exact fzP_pure (ints_pure _) | exact fzP_pure (u64s_pure _) | exact fzP_pure (by assumption) | exact fzP_pure (by first | (simp [pureE, pure1, ints]; done) | (simp_all [pe_int, pe_bool, pe_str, pe_sl, pe_agg, p1_int, p1_bool, p1_str, p1_sl]; done)))⟩, ⟨_, rfl, rfl, rfl, (by first | exact fzP_u64 (mixW_step (by first | omega | decide | exact pow_lt64 _ | exact getD_lt (by first | assumption | exact words_lt _ _ | exact mixW_lt or64 | exact mixW_lt and64 | exact mixW_lt minus64) _ | (simp only [decide_eq_true_eq, decide_eq_false_iff_not, Bool.or_eq_false_iff, Bool.and_eq_true, Bool.not_eq_true', Bool.not_eq_false', bne_iff_ne, ne_eq, bne_eq_false_iff_eq, beq_iff_eq, beq_eq_false_iff_ne, u64s_length, words_length, mixW_length, List.length_replicate] at *; omega)) (by first | omega | decide | exact pow_lt64 _ | exact getD_lt (by first | assumption | exact words_lt _ _ | exact mixW_lt or64 | exact mixW_lt and64 | exact mixW_lt minus64) _ | (simp only [decide_eq_true_eq, decide_eq_false_iff_not, Bool.or_eq_false_iff, Bool.and_eq_true, Bool.not_eq_true', Bool.not_eq_false', bne_iff_ne, ne_eq, bne_eq_false_iff_eq, beq_iff_eq, beq_eq_false_iff_ne, u64s_length, words_length, mixW_length, List.length_replicate] at *; omega))) | exact fzP_u64 mixW_zero.symm |  rfl | exact fzP_pure (ints_pure _) | exact fzP_pure (u64s_pure _) | exact fzP_pure (by assumption) | exact fzP_pure (by first | (simp [pureE, pure1, ints]; done) | (simp_all [pe_int, pe_bool, pe_str, pe_sl, pe_agg, p1_int, p1_bool, p1_str, p1_sl]; done)))⟩, ⟨_, rfl, rfl, rfl, (by first | exact fzP_u64 (mixW_step (by first | omega | decide | exact pow_lt64 _ | exact getD_lt (by first | assumption | exact words_lt _ _ | exact mixW_lt or64 | exact mixW_lt and64 | exact mixW_lt minus64) _ | (simp only [decide_eq_true_eq, decide_eq_false_iff_not, Bool.or_eq_false_iff, Bool.and_eq_true, Bool.not_eq_true', Bool.not_eq_false', bne_iff_ne, ne_eq, bne_eq_false_iff_eq, beq_iff_eq, beq_eq_false_iff_ne, u64s_length, words_length, mixW_length, List.length_replicate] at *; omega)) (by first | omega | decide | exact pow_lt64 _ | exact getD_lt (by first | assumption | exact words_lt _ _ | exact mixW_lt or64 | exact mixW_lt and64 | exact mixW_lt minus64) _ | (simp only [decide_eq_true_eq, decide_eq_false_iff_not, Bool.or_eq_false_iff, Bool.and_eq_true, Bool.not_eq_true', Bool.not_eq_false', bne_iff_ne, ne_eq, bne_eq_false_iff_eq, beq_iff_eq, beq_eq_false_iff_ne, u64s_length, words_length, mixW_length, List.length_replicate] at *; omega))) | exact fzP_u64 mixW_zero.symm |  rfl | exact fzP_pure (ints_pure _) | exact fzP_pure (u64s_pure _) | exact fzP_pure (by assumption) | exact fzP_pure (by first | (simp [pureE, pure1, ints]; done) | (simp_all [pe_int, pe_bool, pe_str, pe_sl, pe_agg, p1_int, p1_bool, p1_str, p1_sl]; done)))⟩, trivial⟩ ?_ ?_)); repeat (first | exact only_refl | refine only_put rfl ?_ | refine only_less rfl ?_ | refine only_ov rfl ?_))
    | ((with_reducible apply n_val); rfl; rfl)
    | ((with_reducible apply n_new); rfl; (first | (simp only [hn0, hn1, hn2, hn3, hn4, hn5, List.length_cons, List.length_nil, Nat.reduceAdd, Nat.zero_add]; done) | (simp only [hn0, hn1, hn2, hn3, hn4, hn5, List.length_cons, List.length_nil, Nat.reduceAdd, Nat.zero_add]; rfl) | rfl); rfl)
    | ((with_reducible apply n_store); rfl; rfl; rfl; rfl; rfl)
    | ((with_reducible apply n_freshL ); (first | (simp only [hn0, hn1, hn2, hn3, hn4, hn5, List.length_cons, List.length_nil, Nat.reduceAdd, Nat.zero_add]; done) | (simp only [hn0, hn1, hn2, hn3, hn4, hn5, List.length_cons, List.length_nil, Nat.reduceAdd, Nat.zero_add]; rfl) | rfl); rfl; rfl; exact hb; rfl; (repeat (first | exact ShL.nil | apply ShL.none | (apply ShL.some; (first | rfl | exact shiftPs_pure (u64s_pure _) | exact shiftPs_pure (ints_pure _) | exact shiftPs_pure (vals_pure (fun _ => rfl) _))))))
    | (with_reducible refine condT_split (fun h => ?_) (fun h => ?_))
    | ((with_reducible apply fnQ_told_ret); rfl)
    | ((with_reducible apply fnQ_ret_soft); rfl; rfl)
  all_goals (try dsimp only at *)
  all_goals (try simp only [decide_eq_true_eq, decide_eq_false_iff_not] at *)
  · omega
  · omega
  · subst hK
    exact congrArg (sv N) (mixW_full (i := i) (k := wN N) (wrd_minus va vb) (by omega))
  · omega
end
end Go.Vm
end
