/- Laid. -/
import Derived.Test.YtlcbceneacnaiaaGreatDoorVmThree
import Derived.KernelRfl
import Derived.Test.YtlcbceneacnaiaaGreatDoorProg
import Derived.Test.YtlcbceneacnaiaaGreatDoorXbitsB
section
/- Code. -/
set_option maxRecDepth 100000
set_option linter.unusedSimpArgs false
set_option linter.unusedVariables false
namespace Go.Vm
open Go
def c21 : RFn := ⟨(.seq (.region (Nodes.flat none (.op (some 2) (.box (.t 0)) 0
  (.op (some 3) (.box (.t 1)) 0
  (.op (some 4) (.move (.c (.bool false))) 0
  .nil)))) false)
 (.seq (.region (Nodes.flat none (.op (some 5) (.load (some 2) (.t 2)) 0
  (.op (some 6) (.load (some 2) (.t 3)) 0
  (.op (some 7) (.call 49 [(.t 5), (.t 6)]) 0
  (.op (some 8) (.call 48 [(.t 7)]) 0
  (.op (some 9) (.bin .eql (.t 8) (.c (.int .i64 0))) 0
  (.op (some 4) (.move (.t 9)) 0
  .nil))))))) false)
 .ret)),
 [.tmp 4]⟩
theorem b21 : fnOf Go.Proofs.Tryz.prog (owOf []) 21 = some c21 := by kernel_rfl
def c48 : RFn := ⟨(.seq (.region (Nodes.flat none (.op (some 1) (.box (.t 0)) 0
  (.op (some 2) (.move (.c (.int .i64 0))) 0
  .nil))) false)
 (.seq (.region (Nodes.flat none (.op (some 3) (.move (.c (.int .i64 0))) 0
  .nil)) false)
 (.seq (.seq (.region (Nodes.flat none (.op (some 6) (.load (some 2) (.t 1)) 0
  (.op (some 7) (.call 93 [(.t 6)]) 0
  (.op (some 8) (.field 1 none (.t 7)) 0
  (.op (some 9) (.len false (.t 8)) 0
  (.op (some 10) (.move (.c (.int .i64 0))) 0
  .nil)))))) false)
 (.block 0 (.loop (.seq (.region (Nodes.flat none (.op (some 11) (.bin .lss (.t 10) (.t 9)) 0
  .nil)) false)
 (.seq (.cond (.t 11)
 .skip
 (.exit 0))
 (.seq (.block 1 (.seq (.region (Nodes.flat none (.op (some 12) (.idxAddr 1 (.t 8) (.t 10)) 0
  (.op (some 13) (.load none (.t 12)) 0
  (.op (some 5) (.move (.t 13)) 0
  .nil)))) false)
 (.region (Nodes.flat none (.op (some 14) (.move (.t 3)) 0
  (.op (some 15) (.move (.t 5)) 0
  (.op (some 16) (.call 103 [(.t 15)]) 0
  (.op (some 17) (.bin .add (.t 14) (.t 16)) 0
  (.op (some 3) (.move (.t 17)) 0
  .nil)))))) false)))
 (.region (Nodes.flat none (.op (some 18) (.bin .add (.t 10) (.c (.int .i64 1))) 0
  (.op (some 10) (.move (.t 18)) 0
  .nil))) false)))))))
 (.seq (.region (Nodes.flat none (.op (some 19) (.move (.t 3)) 0
  (.op (some 2) (.move (.t 19)) 0
  .nil))) false)
 .ret)))),
 [.tmp 2]⟩
theorem b48 : fnOf Go.Proofs.Tryz.prog (owOf []) 48 = some c48 := by kernel_rfl
def c51 : RFn := ⟨(.seq (.region (Nodes.flat none (.op (some 4) (.alloc (.agg [(.int .i64 0), (.lit [])])) 0
  .nil)) false)
 (.seq (.region (Nodes.flat none (.op (some 10) (.move (.t 0)) 0
  (.op (some 11) (.call 18 [(.t 10)]) 0
  (.op (some 5) (.alloc (.agg [(.int .i64 0), (.lit [])])) 0
  (.op none (.store 2 (.t 5) (.t 11)) 0
  .nil))))) false)
 (.seq (.seq (.region (Nodes.flat none (.op (some 12) (.move (.t 1)) 0
  (.op (some 13) (.len false (.t 12)) 0
  (.op (some 14) (.move (.c (.int .i64 0))) 0
  .nil)))) false)
 (.block 0 (.loop (.seq (.region (Nodes.flat none (.op (some 15) (.bin .lss (.t 14) (.t 13)) 0
  .nil)) false)
 (.seq (.cond (.t 15)
 .skip
 (.exit 0))
 (.seq (.block 1 (.seq (.region (Nodes.flat none (.op (some 16) (.idxAddr 1 (.t 12) (.t 14)) 0
  (.op (some 17) (.load none (.t 16)) 0
  (.op (some 7) (.move (.t 17)) 0
  .nil)))) false)
 (.seq (.region (Nodes.flat none (.op (some 18) (.load (some 2) (.t 5)) 0
  (.op (some 19) (.move (.t 7)) 0
  (.op (some 20) (.call 104 [(.t 18), (.t 19)]) 0
  .nil)))) false)
 (.cond (.t 20)
 (.seq (.region (Nodes.flat none (.op (some 22) (.move (.t 7)) 0
  (.op (some 23) (.call 105 [(.t 22)]) 0
  (.op (some 21) (.move (.t 23)) 0
  (.op (some 24) (.extract 0 (.t 21)) 0
  (.op (some 25) (.extract 1 (.t 21)) 0
  (.op (some 8) (.move (.t 24)) 0
  (.op (some 9) (.move (.t 25)) 0
  .nil)))))))) false)
 (.region (Nodes.flat none (.op (some 26) (.fieldAddr 1 (.t 5)) 0
  (.op (some 27) (.load none (.t 26)) 0
  (.op (some 28) (.move (.t 8)) 0
  (.op (some 29) (.idxAddr 1 (.t 27) (.t 28)) 0
  (.op (some 30) (.load none (.t 29)) 0
  (.op (some 31) (.move (.t 9)) 0
  (.op (some 32) (.bin .or (.t 30) (.t 31)) 0
  (.op (some 33) (.idxAddr 1 (.t 27) (.t 28)) 0
  (.op none (.store 1 (.t 33) (.t 32)) 0
  .nil)))))))))) false))
 .skip))))
 (.region (Nodes.flat none (.op (some 34) (.bin .add (.t 14) (.c (.int .i64 1))) 0
  (.op (some 14) (.move (.t 34)) 0
  .nil))) false)))))))
 (.seq (.region (Nodes.flat none (.op (some 35) (.load (some 2) (.t 5)) 0
  (.op none (.store 2 (.t 4) (.t 35)) 0
  .nil))) false)
 .ret)))),
 [.cell (some 2) 4]⟩
theorem b51 : fnOf Go.Proofs.Tryz.prog (owOf []) 51 = some c51 := by kernel_rfl
end Go.Vm
end
section
/- Walks. -/
set_option maxRecDepth 100000
set_option linter.unusedSimpArgs false
set_option linter.unusedVariables false
namespace Go.Vm
open Go
section
variable {gl : Nat → Option PV}
set_option maxHeartbeats 4000000
set_option exponentiation.threshold 2000
theorem p_bits_Count (n : Int) (ws : List Nat) (hw : W64 ws) : Pure Go.Proofs.Tryz.prog gl 48 [sv n ws] (.int .i64 (cn (vN n ws) : Nat)) := by
  have hr := nN_r n ws
  have hv := vN_lt n ws
  have hs := p_bits_sane (gl := gl) n ws hw
  rw [← cn_eq hr.1 hr.2 hv]
  have hk := wN_small hr.2
  generalize hK : wN (nN n ws) = K at *
  generalize vN n ws = v at *
  have hoc := p_oc64 (gl := gl)
  have hst : ∀ i : Int, 0 ≤ i → i < K → pop (64 * i.toNat) v + pop 64 ((words K v).getD i.toNat 0) = pop (64 * (i + 1).toNat) v := fun i h0 h1 => cnt_step h0 h1
  have hle : ∀ j x, pop j x ≤ j := pop_le
  have hz : pop (64 * (0 : Int).toNat) v = 0 := rfl
  generalize pop = p at *
  refine Pure.fn hmix b48 ?_
  repeat' first
    | with_reducible refine tr_seq ?_
    | ((with_reducible refine tr_region_f ?_ ?_); kernel_rfl)
    | with_reducible refine n_nil ?_
    | with_reducible refine seqQ_normal ?_
    | with_reducible refine seqQ_exit ?_
    | with_reducible refine seqQ_ret ?_
    | with_reducible refine blkQ_normal ?_
    | with_reducible refine blkQ_exit ?_
    | with_reducible refine blkQ_ret ?_
    | ((with_reducible refine blkQ_exit_ne ?_ ?_); rfl)
    | with_reducible refine tr_block ?_
    | with_reducible refine tr_skip ?_
    | with_reducible refine tr_exit ?_
    | with_reducible refine tr_ret ?_
    | ((with_reducible apply tr_cond_e); rfl)
    | with_reducible refine condT_t ?_
    | with_reducible refine condT_f ?_
    | with_reducible refine loopV_exit ?_
    | with_reducible refine loopV_ret ?_
    | (first | ((with_reducible apply n_bin); rfl; rfl; focus ((with_reducible (first | apply b_add | apply b_sub | apply b_quo64 | apply b_rem64 | apply b_shl1 | apply b_shr | apply b_or64 | apply b_and64 | apply b_andNot64)) <;> first | omega | decide | exact pow_lt64 _ | exact getD_lt (by first | assumption | exact words_lt _ _ | exact mixW_lt or64 | exact mixW_lt and64 | exact mixW_lt minus64) _ | (simp only [decide_eq_true_eq, decide_eq_false_iff_not, Bool.or_eq_false_iff, Bool.and_eq_true, Bool.not_eq_true', Bool.not_eq_false', bne_iff_ne, ne_eq, bne_eq_false_iff_eq, beq_iff_eq, beq_eq_false_iff_ne, Bool.and_eq_false_iff, ints_length, u64s_length, words_length, mixW_length, List.length_replicate] at *; omega))) | ((with_reducible apply n_min); rfl; rfl) | ((with_reducible apply n_max); rfl; rfl) | ((first | ((with_reducible apply n_conv); rfl; with_reducible apply wrap_u64_of) | ((with_reducible apply n_idx_u64); rfl; rfl) | ((with_reducible apply n_idx_own); rfl; rfl; rfl) | ((with_reducible apply n_load_u64); rfl; rfl) | ((with_reducible apply n_store_u64); rfl; rfl; rfl) | ((with_reducible apply n_mk64); rfl; rfl)); first | omega | decide | exact pow_lt64 _ | exact getD_lt (by first | assumption | exact words_lt _ _ | exact mixW_lt or64 | exact mixW_lt and64 | exact mixW_lt minus64) _ | (simp only [decide_eq_true_eq, decide_eq_false_iff_not, Bool.or_eq_false_iff, Bool.and_eq_true, Bool.not_eq_true', Bool.not_eq_false', bne_iff_ne, ne_eq, bne_eq_false_iff_eq, beq_iff_eq, beq_eq_false_iff_ne, Bool.and_eq_false_iff, ints_length, u64s_length, words_length, mixW_length, List.length_replicate] at *; omega)) | ((with_reducible apply fnQ_ret_set); rfl; rfl; (first | rfl | exact (by simp only [words_length, mixW_length, List.length_replicate, List.length_set]))))
    | refine n_call (f := 93) rfl rfl hs ?_
    | refine n_call (f := 103) rfl rfl (hoc _ (by first | omega | decide | exact pow_lt64 _ | exact getD_lt (by first | assumption | exact words_lt _ _ | exact mixW_lt or64 | exact mixW_lt and64 | exact mixW_lt minus64) _ | (simp only [decide_eq_true_eq, decide_eq_false_iff_not, Bool.or_eq_false_iff, Bool.and_eq_true, Bool.not_eq_true', Bool.not_eq_false', bne_iff_ne, ne_eq, bne_eq_false_iff_eq, beq_iff_eq, beq_eq_false_iff_ne, Bool.and_eq_false_iff, ints_length, u64s_length, words_length, mixW_length, List.length_replicate] at *; omega))) ?_
    | (refine tr_loop_v (α := Int × Int) 1 (fun | (i, c) => [(10, some (.int .i64 i)), (3, some (.int .i64 c)), (11, none), (12, none), (13, none), (5, none), (14, none), (15, none), (16, none), (17, none), (18, none)]) (fun | (i, c) => [none]) (fun | (i, c) => 0 ≤ i ∧ i ≤ K ∧ c = (p (64 * i.toNat) v : Nat)) (fun | (i, c) => (K - i).toNat) ((0, 0)) (ks := [10, 3, 11, 12, 13, 5, 14, 15, 16, 17, 18]) (fun _ => rfl) (fun _ => rfl) rfl (by omega) ?_ ⟨⟨_, rfl, rfl⟩, ⟨_, rfl, rfl⟩, trivial⟩ trivial ?_; rotate_left; rintro ⟨i, c⟩ hx; try dsimp only at hx)
    | ((first | (refine loopV_normal ((_, _)) ?_ ⟨⟨_, rfl, rfl⟩, ⟨_, rfl, rfl⟩, trivial⟩ trivial ?_ ?_)); repeat (first | exact only_refl | refine only_put rfl ?_ | refine only_less rfl ?_ | refine only_ov rfl ?_))
    | ((with_reducible apply n_val); rfl; rfl)
    | ((with_reducible apply n_new); rfl; (first | (simp only [hn0, hn1, hn2, hn3, hn4, hn5, List.length_cons, List.length_nil, Nat.reduceAdd, Nat.zero_add]; done) | (simp only [hn0, hn1, hn2, hn3, hn4, hn5, List.length_cons, List.length_nil, Nat.reduceAdd, Nat.zero_add]; rfl) | rfl); rfl)
    | (with_reducible refine condT_split (fun h => ?_) (fun h => ?_))
    | ((with_reducible apply fnQ_told_ret); rfl)
    | ((with_reducible apply fnQ_ret_soft); rfl; rfl)
  all_goals (try dsimp only at *)
  all_goals (try simp only [decide_eq_true_eq, decide_eq_false_iff_not, u64s_length, words_length, bne_iff_ne, ne_eq, bne_eq_false_iff_eq] at *)
  · omega
  · obtain ⟨g0, g1, g2⟩ := hx
    subst hK
    have q1 := hst i (by omega) (by omega)
    have q2 := hle (64 * i.toNat) v
    have q3 := hle 64 ((words (wN (nN n ws)) v).getD i.toNat 0)
    rw [wrap_i64_of (by omega)]
    exact ⟨by omega, by omega, by omega⟩
  · obtain ⟨g0, g1, g2⟩ := hx
    rw [g2, show (64 * i.toNat) = 64 * K by omega]
  · exact ⟨by omega, by omega, by rw [hz]; rfl⟩
theorem p_bits_Of (n : Int) (l : List Int) (hl : l.length ≤ 1000000000) : Pure Go.Proofs.Tryz.prog gl 51 [.int .i64 n, .sl (ints l)] (mk (clN n) (ofV (clN n) l)) := by
  have hr := clN_r n
  have hN := f_bits_New (gl := gl) n
  have hk := wN_small hr.2
  have hk2 := wN_le hr.1
  generalize clN n = N at *
  generalize hK : wN N = K at *
  refine Pure.fn hmix b51 ?_
  repeat' first
    | with_reducible refine tr_seq ?_
    | ((with_reducible refine tr_region_f ?_ ?_); kernel_rfl)
    | with_reducible refine n_nil ?_
    | with_reducible refine seqQ_normal ?_
    | with_reducible refine seqQ_exit ?_
    | with_reducible refine seqQ_ret ?_
    | with_reducible refine blkQ_normal ?_
    | with_reducible refine blkQ_exit ?_
    | with_reducible refine blkQ_ret ?_
    | ((with_reducible refine blkQ_exit_ne ?_ ?_); rfl)
    | with_reducible refine tr_block ?_
    | with_reducible refine tr_skip ?_
    | with_reducible refine tr_exit ?_
    | with_reducible refine tr_ret ?_
    | ((with_reducible apply tr_cond_e); rfl)
    | with_reducible refine condT_t ?_
    | with_reducible refine condT_f ?_
    | with_reducible refine loopV_exit ?_
    | with_reducible refine loopV_ret ?_
    | (first | ((with_reducible apply n_bin); rfl; rfl; focus ((with_reducible (first | apply b_add | apply b_sub | apply b_quo64 | apply b_rem64 | apply b_shl1 | apply b_shr | apply b_or64 | apply b_and64 | apply b_andNot64)) <;> first | omega | decide | exact pow_lt64 _ | exact getD_lt (by first | assumption | exact words_lt _ _ | exact mixW_lt or64 | exact mixW_lt and64 | exact mixW_lt minus64) _ | (simp only [decide_eq_true_eq, decide_eq_false_iff_not, Bool.or_eq_false_iff, Bool.and_eq_true, Bool.not_eq_true', Bool.not_eq_false', bne_iff_ne, ne_eq, bne_eq_false_iff_eq, beq_iff_eq, beq_eq_false_iff_ne, Bool.and_eq_false_iff, ints_length, u64s_length, words_length, mixW_length, List.length_replicate] at *; omega))) | ((with_reducible apply n_min); rfl; rfl) | ((with_reducible apply n_max); rfl; rfl) | ((first | ((with_reducible apply n_conv); rfl; with_reducible apply wrap_u64_of) | ((with_reducible apply n_idx_u64); rfl; rfl) | ((with_reducible apply n_idx_own); rfl; rfl; rfl) | ((with_reducible apply n_load_u64); rfl; rfl) | ((with_reducible apply n_store_u64); rfl; rfl; rfl) | ((with_reducible apply n_mk64); rfl; rfl)); first | omega | decide | exact pow_lt64 _ | exact getD_lt (by first | assumption | exact words_lt _ _ | exact mixW_lt or64 | exact mixW_lt and64 | exact mixW_lt minus64) _ | (simp only [decide_eq_true_eq, decide_eq_false_iff_not, Bool.or_eq_false_iff, Bool.and_eq_true, Bool.not_eq_true', Bool.not_eq_false', bne_iff_ne, ne_eq, bne_eq_false_iff_eq, beq_iff_eq, beq_eq_false_iff_ne, Bool.and_eq_false_iff, ints_length, u64s_length, words_length, mixW_length, List.length_replicate] at *; omega)) | ((with_reducible apply fnQ_ret_set); rfl; rfl; (first | rfl | exact (by simp only [words_length, mixW_length, List.length_replicate, List.length_set]))))
    | ((with_reducible apply n_idx_ints); rfl; rfl; first | omega | decide | exact pow_lt64 _ | exact getD_lt (by first | assumption | exact words_lt _ _ | exact mixW_lt or64 | exact mixW_lt and64 | exact mixW_lt minus64) _ | (simp only [decide_eq_true_eq, decide_eq_false_iff_not, Bool.or_eq_false_iff, Bool.and_eq_true, Bool.not_eq_true', Bool.not_eq_false', bne_iff_ne, ne_eq, bne_eq_false_iff_eq, beq_iff_eq, beq_eq_false_iff_ne, Bool.and_eq_false_iff, ints_length, u64s_length, words_length, mixW_length, List.length_replicate] at *; omega))
    | (refine tr_loop_v (α := Int) 4 (fun | i => [(14, some (.int .i64 i)), (15, none), (16, none), (17, none), (7, none), (18, none), (19, none), (20, none), (22, none), (23, none), (21, none), (24, none), (25, none), (8, none), (9, none), (26, none), (27, none), (28, none), (29, none), (30, none), (31, none), (32, none), (33, none), (34, none)]) (fun | i => [some ⟨0, 2, [.agg [.int .i64 0, .lit []]]⟩, none, some ⟨0, 1, u64s (words K (ofV N (l.take i.toNat)))⟩, some ⟨0, 2, [.agg [.int .i64 N, .ref 2 0 0 K]]⟩]) (fun | i => 0 ≤ i ∧ i ≤ l.length) (fun | i => (l.length - i).toNat) (0) (ks := [14, 15, 16, 17, 7, 18, 19, 20, 22, 23, 21, 24, 25, 8, 9, 26, 27, 28, 29, 30, 31, 32, 33, 34]) (fun _ => rfl) (fun _ => rfl) rfl (by omega) ?_ ⟨⟨_, rfl, rfl⟩, trivial⟩ ⟨⟨_, rfl, rfl, rfl, (by first | exact fzP_u64 (ofV_t (by first | omega | decide | exact pow_lt64 _ | exact getD_lt (by first | assumption | exact words_lt _ _ | exact mixW_lt or64 | exact mixW_lt and64 | exact mixW_lt minus64) _ | (simp only [decide_eq_true_eq, decide_eq_false_iff_not, Bool.or_eq_false_iff, Bool.and_eq_true, Bool.not_eq_true', Bool.not_eq_false', bne_iff_ne, ne_eq, bne_eq_false_iff_eq, beq_iff_eq, beq_eq_false_iff_ne, Bool.and_eq_false_iff, ints_length, u64s_length, words_length, mixW_length, List.length_replicate] at *; omega)) (by first | omega | decide | exact pow_lt64 _ | exact getD_lt (by first | assumption | exact words_lt _ _ | exact mixW_lt or64 | exact mixW_lt and64 | exact mixW_lt minus64) _ | (simp only [decide_eq_true_eq, decide_eq_false_iff_not, Bool.or_eq_false_iff, Bool.and_eq_true, Bool.not_eq_true', Bool.not_eq_false', bne_iff_ne, ne_eq, bne_eq_false_iff_eq, beq_iff_eq, beq_eq_false_iff_ne, Bool.and_eq_false_iff, ints_length, u64s_length, words_length, mixW_length, List.length_replicate] at *; omega)) (by first | omega | decide | exact pow_lt64 _ | exact getD_lt (by first | assumption | exact words_lt _ _ | exact mixW_lt or64 | exact mixW_lt and64 | exact mixW_lt minus64) _ | (simp only [decide_eq_true_eq, decide_eq_false_iff_not, Bool.or_eq_false_iff, Bool.and_eq_true, Bool.not_eq_true', Bool.not_eq_false', bne_iff_ne, ne_eq, bne_eq_false_iff_eq, beq_iff_eq, beq_eq_false_iff_ne, Bool.and_eq_false_iff, ints_length, u64s_length, words_length, mixW_length, List.length_replicate] at *; omega)) (by first | omega | decide | exact pow_lt64 _ | exact getD_lt (by first | assumption | exact words_lt _ _ | exact mixW_lt or64 | exact mixW_lt and64 | exact mixW_lt minus64) _ | (simp only [decide_eq_true_eq, decide_eq_false_iff_not, Bool.or_eq_false_iff, Bool.and_eq_true, Bool.not_eq_true', Bool.not_eq_false', bne_iff_ne, ne_eq, bne_eq_false_iff_eq, beq_iff_eq, beq_eq_false_iff_ne, Bool.and_eq_false_iff, ints_length, u64s_length, words_length, mixW_length, List.length_replicate] at *; omega))) | exact fzP_u64 (ofV_f (by first | omega | decide | exact pow_lt64 _ | exact getD_lt (by first | assumption | exact words_lt _ _ | exact mixW_lt or64 | exact mixW_lt and64 | exact mixW_lt minus64) _ | (simp only [decide_eq_true_eq, decide_eq_false_iff_not, Bool.or_eq_false_iff, Bool.and_eq_true, Bool.not_eq_true', Bool.not_eq_false', bne_iff_ne, ne_eq, bne_eq_false_iff_eq, beq_iff_eq, beq_eq_false_iff_ne, Bool.and_eq_false_iff, ints_length, u64s_length, words_length, mixW_length, List.length_replicate] at *; omega)) (by first | omega | decide | exact pow_lt64 _ | exact getD_lt (by first | assumption | exact words_lt _ _ | exact mixW_lt or64 | exact mixW_lt and64 | exact mixW_lt minus64) _ | (simp only [decide_eq_true_eq, decide_eq_false_iff_not, Bool.or_eq_false_iff, Bool.and_eq_true, Bool.not_eq_true', Bool.not_eq_false', bne_iff_ne, ne_eq, bne_eq_false_iff_eq, beq_iff_eq, beq_eq_false_iff_ne, Bool.and_eq_false_iff, ints_length, u64s_length, words_length, mixW_length, List.length_replicate] at *; omega)) (by first | omega | decide | exact pow_lt64 _ | exact getD_lt (by first | assumption | exact words_lt _ _ | exact mixW_lt or64 | exact mixW_lt and64 | exact mixW_lt minus64) _ | (simp only [decide_eq_true_eq, decide_eq_false_iff_not, Bool.or_eq_false_iff, Bool.and_eq_true, Bool.not_eq_true', Bool.not_eq_false', bne_iff_ne, ne_eq, bne_eq_false_iff_eq, beq_iff_eq, beq_eq_false_iff_ne, Bool.and_eq_false_iff, ints_length, u64s_length, words_length, mixW_length, List.length_replicate] at *; omega))) | exact fzP_u64 (words_zero K).symm |  rfl | exact fzP_pure (ints_pure _) | exact fzP_pure (u64s_pure _) | exact fzP_pure (by assumption) | exact fzP_pure (by first | (simp [pureE, pure1, ints]; done) | (simp_all [pe_int, pe_bool, pe_str, pe_sl, pe_agg, p1_int, p1_bool, p1_str, p1_sl]; done)))⟩, ⟨_, rfl, rfl, rfl, (by first | exact fzP_u64 (ofV_t (by first | omega | decide | exact pow_lt64 _ | exact getD_lt (by first | assumption | exact words_lt _ _ | exact mixW_lt or64 | exact mixW_lt and64 | exact mixW_lt minus64) _ | (simp only [decide_eq_true_eq, decide_eq_false_iff_not, Bool.or_eq_false_iff, Bool.and_eq_true, Bool.not_eq_true', Bool.not_eq_false', bne_iff_ne, ne_eq, bne_eq_false_iff_eq, beq_iff_eq, beq_eq_false_iff_ne, Bool.and_eq_false_iff, ints_length, u64s_length, words_length, mixW_length, List.length_replicate] at *; omega)) (by first | omega | decide | exact pow_lt64 _ | exact getD_lt (by first | assumption | exact words_lt _ _ | exact mixW_lt or64 | exact mixW_lt and64 | exact mixW_lt minus64) _ | (simp only [decide_eq_true_eq, decide_eq_false_iff_not, Bool.or_eq_false_iff, Bool.and_eq_true, Bool.not_eq_true', Bool.not_eq_false', bne_iff_ne, ne_eq, bne_eq_false_iff_eq, beq_iff_eq, beq_eq_false_iff_ne, Bool.and_eq_false_iff, ints_length, u64s_length, words_length, mixW_length, List.length_replicate] at *; omega)) (by first | omega | decide | exact pow_lt64 _ | exact getD_lt (by first | assumption | exact words_lt _ _ | exact mixW_lt or64 | exact mixW_lt and64 | exact mixW_lt minus64) _ | (simp only [decide_eq_true_eq, decide_eq_false_iff_not, Bool.or_eq_false_iff, Bool.and_eq_true, Bool.not_eq_true', Bool.not_eq_false', bne_iff_ne, ne_eq, bne_eq_false_iff_eq, beq_iff_eq, beq_eq_false_iff_ne, Bool.and_eq_false_iff, ints_length, u64s_length, words_length, mixW_length, List.length_replicate] at *; omega)) (by first | omega | decide | exact pow_lt64 _ | exact getD_lt (by first | assumption | exact words_lt _ _ | exact mixW_lt or64 | exact mixW_lt and64 | exact mixW_lt minus64) _ | (simp only [decide_eq_true_eq, decide_eq_false_iff_not, Bool.or_eq_false_iff, Bool.and_eq_true, Bool.not_eq_true', Bool.not_eq_false', bne_iff_ne, ne_eq, bne_eq_false_iff_eq, beq_iff_eq, beq_eq_false_iff_ne, Bool.and_eq_false_iff, ints_length, u64s_length, words_length, mixW_length, List.length_replicate] at *; omega))) | exact fzP_u64 (ofV_f (by first | omega | decide | exact pow_lt64 _ | exact getD_lt (by first | assumption | exact words_lt _ _ | exact mixW_lt or64 | exact mixW_lt and64 | exact mixW_lt minus64) _ | (simp only [decide_eq_true_eq, decide_eq_false_iff_not, Bool.or_eq_false_iff, Bool.and_eq_true, Bool.not_eq_true', Bool.not_eq_false', bne_iff_ne, ne_eq, bne_eq_false_iff_eq, beq_iff_eq, beq_eq_false_iff_ne, Bool.and_eq_false_iff, ints_length, u64s_length, words_length, mixW_length, List.length_replicate] at *; omega)) (by first | omega | decide | exact pow_lt64 _ | exact getD_lt (by first | assumption | exact words_lt _ _ | exact mixW_lt or64 | exact mixW_lt and64 | exact mixW_lt minus64) _ | (simp only [decide_eq_true_eq, decide_eq_false_iff_not, Bool.or_eq_false_iff, Bool.and_eq_true, Bool.not_eq_true', Bool.not_eq_false', bne_iff_ne, ne_eq, bne_eq_false_iff_eq, beq_iff_eq, beq_eq_false_iff_ne, Bool.and_eq_false_iff, ints_length, u64s_length, words_length, mixW_length, List.length_replicate] at *; omega)) (by first | omega | decide | exact pow_lt64 _ | exact getD_lt (by first | assumption | exact words_lt _ _ | exact mixW_lt or64 | exact mixW_lt and64 | exact mixW_lt minus64) _ | (simp only [decide_eq_true_eq, decide_eq_false_iff_not, Bool.or_eq_false_iff, Bool.and_eq_true, Bool.not_eq_true', Bool.not_eq_false', bne_iff_ne, ne_eq, bne_eq_false_iff_eq, beq_iff_eq, beq_eq_false_iff_ne, Bool.and_eq_false_iff, ints_length, u64s_length, words_length, mixW_length, List.length_replicate] at *; omega))) | exact fzP_u64 (words_zero K).symm |  rfl | exact fzP_pure (ints_pure _) | exact fzP_pure (u64s_pure _) | exact fzP_pure (by assumption) | exact fzP_pure (by first | (simp [pureE, pure1, ints]; done) | (simp_all [pe_int, pe_bool, pe_str, pe_sl, pe_agg, p1_int, p1_bool, p1_str, p1_sl]; done)))⟩, ⟨_, rfl, rfl, rfl, (by first | exact fzP_u64 (ofV_t (by first | omega | decide | exact pow_lt64 _ | exact getD_lt (by first | assumption | exact words_lt _ _ | exact mixW_lt or64 | exact mixW_lt and64 | exact mixW_lt minus64) _ | (simp only [decide_eq_true_eq, decide_eq_false_iff_not, Bool.or_eq_false_iff, Bool.and_eq_true, Bool.not_eq_true', Bool.not_eq_false', bne_iff_ne, ne_eq, bne_eq_false_iff_eq, beq_iff_eq, beq_eq_false_iff_ne, Bool.and_eq_false_iff, ints_length, u64s_length, words_length, mixW_length, List.length_replicate] at *; omega)) (by first | omega | decide | exact pow_lt64 _ | exact getD_lt (by first | assumption | exact words_lt _ _ | exact mixW_lt or64 | exact mixW_lt and64 | exact mixW_lt minus64) _ | (simp only [decide_eq_true_eq, decide_eq_false_iff_not, Bool.or_eq_false_iff, Bool.and_eq_true, Bool.not_eq_true', Bool.not_eq_false', bne_iff_ne, ne_eq, bne_eq_false_iff_eq, beq_iff_eq, beq_eq_false_iff_ne, Bool.and_eq_false_iff, ints_length, u64s_length, words_length, mixW_length, List.length_replicate] at *; omega)) (by first | omega | decide | exact pow_lt64 _ | exact getD_lt (by first | assumption | exact words_lt _ _ | exact mixW_lt or64 | exact mixW_lt and64 | exact mixW_lt minus64) _ | (simp only [decide_eq_true_eq, decide_eq_false_iff_not, Bool.or_eq_false_iff, Bool.and_eq_true, Bool.not_eq_true', Bool.not_eq_false', bne_iff_ne, ne_eq, bne_eq_false_iff_eq, beq_iff_eq, beq_eq_false_iff_ne, Bool.and_eq_false_iff, ints_length, u64s_length, words_length, mixW_length, List.length_replicate] at *; omega)) (by first | omega | decide | exact pow_lt64 _ | exact getD_lt (by first | assumption | exact words_lt _ _ | exact mixW_lt or64 | exact mixW_lt and64 | exact mixW_lt minus64) _ | (simp only [decide_eq_true_eq, decide_eq_false_iff_not, Bool.or_eq_false_iff, Bool.and_eq_true, Bool.not_eq_true', Bool.not_eq_false', bne_iff_ne, ne_eq, bne_eq_false_iff_eq, beq_iff_eq, beq_eq_false_iff_ne, Bool.and_eq_false_iff, ints_length, u64s_length, words_length, mixW_length, List.length_replicate] at *; omega))) | exact fzP_u64 (ofV_f (by first | omega | decide | exact pow_lt64 _ | exact getD_lt (by first | assumption | exact words_lt _ _ | exact mixW_lt or64 | exact mixW_lt and64 | exact mixW_lt minus64) _ | (simp only [decide_eq_true_eq, decide_eq_false_iff_not, Bool.or_eq_false_iff, Bool.and_eq_true, Bool.not_eq_true', Bool.not_eq_false', bne_iff_ne, ne_eq, bne_eq_false_iff_eq, beq_iff_eq, beq_eq_false_iff_ne, Bool.and_eq_false_iff, ints_length, u64s_length, words_length, mixW_length, List.length_replicate] at *; omega)) (by first | omega | decide | exact pow_lt64 _ | exact getD_lt (by first | assumption | exact words_lt _ _ | exact mixW_lt or64 | exact mixW_lt and64 | exact mixW_lt minus64) _ | (simp only [decide_eq_true_eq, decide_eq_false_iff_not, Bool.or_eq_false_iff, Bool.and_eq_true, Bool.not_eq_true', Bool.not_eq_false', bne_iff_ne, ne_eq, bne_eq_false_iff_eq, beq_iff_eq, beq_eq_false_iff_ne, Bool.and_eq_false_iff, ints_length, u64s_length, words_length, mixW_length, List.length_replicate] at *; omega)) (by first | omega | decide | exact pow_lt64 _ | exact getD_lt (by first | assumption | exact words_lt _ _ | exact mixW_lt or64 | exact mixW_lt and64 | exact mixW_lt minus64) _ | (simp only [decide_eq_true_eq, decide_eq_false_iff_not, Bool.or_eq_false_iff, Bool.and_eq_true, Bool.not_eq_true', Bool.not_eq_false', bne_iff_ne, ne_eq, bne_eq_false_iff_eq, beq_iff_eq, beq_eq_false_iff_ne, Bool.and_eq_false_iff, ints_length, u64s_length, words_length, mixW_length, List.length_replicate] at *; omega))) | exact fzP_u64 (words_zero K).symm |  rfl | exact fzP_pure (ints_pure _) | exact fzP_pure (u64s_pure _) | exact fzP_pure (by assumption) | exact fzP_pure (by first | (simp [pureE, pure1, ints]; done) | (simp_all [pe_int, pe_bool, pe_str, pe_sl, pe_agg, p1_int, p1_bool, p1_str, p1_sl]; done)))⟩, trivial⟩ ?_; rotate_left; rintro i hx; try dsimp only at hx)
    | ((first | (refine loopV_normal (_) ?_ ⟨⟨_, rfl, rfl⟩, trivial⟩ ⟨⟨_, rfl, rfl, rfl, (by first | exact fzP_u64 (ofV_t (by first | omega | decide | exact pow_lt64 _ | exact getD_lt (by first | assumption | exact words_lt _ _ | exact mixW_lt or64 | exact mixW_lt and64 | exact mixW_lt minus64) _ | (simp only [decide_eq_true_eq, decide_eq_false_iff_not, Bool.or_eq_false_iff, Bool.and_eq_true, Bool.not_eq_true', Bool.not_eq_false', bne_iff_ne, ne_eq, bne_eq_false_iff_eq, beq_iff_eq, beq_eq_false_iff_ne, Bool.and_eq_false_iff, ints_length, u64s_length, words_length, mixW_length, List.length_replicate] at *; omega)) (by first | omega | decide | exact pow_lt64 _ | exact getD_lt (by first | assumption | exact words_lt _ _ | exact mixW_lt or64 | exact mixW_lt and64 | exact mixW_lt minus64) _ | (simp only [decide_eq_true_eq, decide_eq_false_iff_not, Bool.or_eq_false_iff, Bool.and_eq_true, Bool.not_eq_true', Bool.not_eq_false', bne_iff_ne, ne_eq, bne_eq_false_iff_eq, beq_iff_eq, beq_eq_false_iff_ne, Bool.and_eq_false_iff, ints_length, u64s_length, words_length, mixW_length, List.length_replicate] at *; omega)) (by first | omega | decide | exact pow_lt64 _ | exact getD_lt (by first | assumption | exact words_lt _ _ | exact mixW_lt or64 | exact mixW_lt and64 | exact mixW_lt minus64) _ | (simp only [decide_eq_true_eq, decide_eq_false_iff_not, Bool.or_eq_false_iff, Bool.and_eq_true, Bool.not_eq_true', Bool.not_eq_false', bne_iff_ne, ne_eq, bne_eq_false_iff_eq, beq_iff_eq, beq_eq_false_iff_ne, Bool.and_eq_false_iff, ints_length, u64s_length, words_length, mixW_length, List.length_replicate] at *; omega)) (by first | omega | decide | exact pow_lt64 _ | exact getD_lt (by first | assumption | exact words_lt _ _ | exact mixW_lt or64 | exact mixW_lt and64 | exact mixW_lt minus64) _ | (simp only [decide_eq_true_eq, decide_eq_false_iff_not, Bool.or_eq_false_iff, Bool.and_eq_true, Bool.not_eq_true', Bool.not_eq_false', bne_iff_ne, ne_eq, bne_eq_false_iff_eq, beq_iff_eq, beq_eq_false_iff_ne, Bool.and_eq_false_iff, ints_length, u64s_length, words_length, mixW_length, List.length_replicate] at *; omega))) | exact fzP_u64 (ofV_f (by first | omega | decide | exact pow_lt64 _ | exact getD_lt (by first | assumption | exact words_lt _ _ | exact mixW_lt or64 | exact mixW_lt and64 | exact mixW_lt minus64) _ | (simp only [decide_eq_true_eq, decide_eq_false_iff_not, Bool.or_eq_false_iff, Bool.and_eq_true, Bool.not_eq_true', Bool.not_eq_false', bne_iff_ne, ne_eq, bne_eq_false_iff_eq, beq_iff_eq, beq_eq_false_iff_ne, Bool.and_eq_false_iff, ints_length, u64s_length, words_length, mixW_length, List.length_replicate] at *; omega)) (by first | omega | decide | exact pow_lt64 _ | exact getD_lt (by first | assumption | exact words_lt _ _ | exact mixW_lt or64 | exact mixW_lt and64 | exact mixW_lt minus64) _ | (simp only [decide_eq_true_eq, decide_eq_false_iff_not, Bool.or_eq_false_iff, Bool.and_eq_true, Bool.not_eq_true', Bool.not_eq_false', bne_iff_ne, ne_eq, bne_eq_false_iff_eq, beq_iff_eq, beq_eq_false_iff_ne, Bool.and_eq_false_iff, ints_length, u64s_length, words_length, mixW_length, List.length_replicate] at *; omega)) (by first | omega | decide | exact pow_lt64 _ | exact getD_lt (by first | assumption | exact words_lt _ _ | exact mixW_lt or64 | exact mixW_lt and64 | exact mixW_lt minus64) _ | (simp only [decide_eq_true_eq, decide_eq_false_iff_not, Bool.or_eq_false_iff, Bool.and_eq_true, Bool.not_eq_true', Bool.not_eq_false', bne_iff_ne, ne_eq, bne_eq_false_iff_eq, beq_iff_eq, beq_eq_false_iff_ne, Bool.and_eq_false_iff, ints_length, u64s_length, words_length, mixW_length, List.length_replicate] at *; omega))) | exact fzP_u64 (words_zero K).symm |  rfl | exact fzP_pure (ints_pure _) | exact fzP_pure (u64s_pure _) | exact fzP_pure (by assumption) | exact fzP_pure (by first | (simp [pureE, pure1, ints]; done) | (simp_all [pe_int, pe_bool, pe_str, pe_sl, pe_agg, p1_int, p1_bool, p1_str, p1_sl]; done)))⟩, ⟨_, rfl, rfl, rfl, (by first | exact fzP_u64 (ofV_t (by first | omega | decide | exact pow_lt64 _ | exact getD_lt (by first | assumption | exact words_lt _ _ | exact mixW_lt or64 | exact mixW_lt and64 | exact mixW_lt minus64) _ | (simp only [decide_eq_true_eq, decide_eq_false_iff_not, Bool.or_eq_false_iff, Bool.and_eq_true, Bool.not_eq_true', Bool.not_eq_false', bne_iff_ne, ne_eq, bne_eq_false_iff_eq, beq_iff_eq, beq_eq_false_iff_ne, Bool.and_eq_false_iff, ints_length, u64s_length, words_length, mixW_length, List.length_replicate] at *; omega)) (by first | omega | decide | exact pow_lt64 _ | exact getD_lt (by first | assumption | exact words_lt _ _ | exact mixW_lt or64 | exact mixW_lt and64 | exact mixW_lt minus64) _ | (simp only [decide_eq_true_eq, decide_eq_false_iff_not, Bool.or_eq_false_iff, Bool.and_eq_true, Bool.not_eq_true', Bool.not_eq_false', bne_iff_ne, ne_eq, bne_eq_false_iff_eq, beq_iff_eq, beq_eq_false_iff_ne, Bool.and_eq_false_iff, ints_length, u64s_length, words_length, mixW_length, List.length_replicate] at *; omega)) (by first | omega | decide | exact pow_lt64 _ | exact getD_lt (by first | assumption | exact words_lt _ _ | exact mixW_lt or64 | exact mixW_lt and64 | exact mixW_lt minus64) _ | (simp only [decide_eq_true_eq, decide_eq_false_iff_not, Bool.or_eq_false_iff, Bool.and_eq_true, Bool.not_eq_true', Bool.not_eq_false', bne_iff_ne, ne_eq, bne_eq_false_iff_eq, beq_iff_eq, beq_eq_false_iff_ne, Bool.and_eq_false_iff, ints_length, u64s_length, words_length, mixW_length, List.length_replicate] at *; omega)) (by first | omega | decide | exact pow_lt64 _ | exact getD_lt (by first | assumption | exact words_lt _ _ | exact mixW_lt or64 | exact mixW_lt and64 | exact mixW_lt minus64) _ | (simp only [decide_eq_true_eq, decide_eq_false_iff_not, Bool.or_eq_false_iff, Bool.and_eq_true, Bool.not_eq_true', Bool.not_eq_false', bne_iff_ne, ne_eq, bne_eq_false_iff_eq, beq_iff_eq, beq_eq_false_iff_ne, Bool.and_eq_false_iff, ints_length, u64s_length, words_length, mixW_length, List.length_replicate] at *; omega))) | exact fzP_u64 (ofV_f (by first | omega | decide | exact pow_lt64 _ | exact getD_lt (by first | assumption | exact words_lt _ _ | exact mixW_lt or64 | exact mixW_lt and64 | exact mixW_lt minus64) _ | (simp only [decide_eq_true_eq, decide_eq_false_iff_not, Bool.or_eq_false_iff, Bool.and_eq_true, Bool.not_eq_true', Bool.not_eq_false', bne_iff_ne, ne_eq, bne_eq_false_iff_eq, beq_iff_eq, beq_eq_false_iff_ne, Bool.and_eq_false_iff, ints_length, u64s_length, words_length, mixW_length, List.length_replicate] at *; omega)) (by first | omega | decide | exact pow_lt64 _ | exact getD_lt (by first | assumption | exact words_lt _ _ | exact mixW_lt or64 | exact mixW_lt and64 | exact mixW_lt minus64) _ | (simp only [decide_eq_true_eq, decide_eq_false_iff_not, Bool.or_eq_false_iff, Bool.and_eq_true, Bool.not_eq_true', Bool.not_eq_false', bne_iff_ne, ne_eq, bne_eq_false_iff_eq, beq_iff_eq, beq_eq_false_iff_ne, Bool.and_eq_false_iff, ints_length, u64s_length, words_length, mixW_length, List.length_replicate] at *; omega)) (by first | omega | decide | exact pow_lt64 _ | exact getD_lt (by first | assumption | exact words_lt _ _ | exact mixW_lt or64 | exact mixW_lt and64 | exact mixW_lt minus64) _ | (simp only [decide_eq_true_eq, decide_eq_false_iff_not, Bool.or_eq_false_iff, Bool.and_eq_true, Bool.not_eq_true', Bool.not_eq_false', bne_iff_ne, ne_eq, bne_eq_false_iff_eq, beq_iff_eq, beq_eq_false_iff_ne, Bool.and_eq_false_iff, ints_length, u64s_length, words_length, mixW_length, List.length_replicate] at *; omega))) | exact fzP_u64 (words_zero K).symm |  rfl | exact fzP_pure (ints_pure _) | exact fzP_pure (u64s_pure _) | exact fzP_pure (by assumption) | exact fzP_pure (by first | (simp [pureE, pure1, ints]; done) | (simp_all [pe_int, pe_bool, pe_str, pe_sl, pe_agg, p1_int, p1_bool, p1_str, p1_sl]; done)))⟩, ⟨_, rfl, rfl, rfl, (by first | exact fzP_u64 (ofV_t (by first | omega | decide | exact pow_lt64 _ | exact getD_lt (by first | assumption | exact words_lt _ _ | exact mixW_lt or64 | exact mixW_lt and64 | exact mixW_lt minus64) _ | (simp only [decide_eq_true_eq, decide_eq_false_iff_not, Bool.or_eq_false_iff, Bool.and_eq_true, Bool.not_eq_true', Bool.not_eq_false', bne_iff_ne, ne_eq, bne_eq_false_iff_eq, beq_iff_eq, beq_eq_false_iff_ne, Bool.and_eq_false_iff, ints_length, u64s_length, words_length, mixW_length, List.length_replicate] at *; omega)) (by first | omega | decide | exact pow_lt64 _ | exact getD_lt (by first | assumption | exact words_lt _ _ | exact mixW_lt or64 | exact mixW_lt and64 | exact mixW_lt minus64) _ | (simp only [decide_eq_true_eq, decide_eq_false_iff_not, Bool.or_eq_false_iff, Bool.and_eq_true, Bool.not_eq_true', Bool.not_eq_false', bne_iff_ne, ne_eq, bne_eq_false_iff_eq, beq_iff_eq, beq_eq_false_iff_ne, Bool.and_eq_false_iff, ints_length, u64s_length, words_length, mixW_length, List.length_replicate] at *; omega)) (by first | omega | decide | exact pow_lt64 _ | exact getD_lt (by first | assumption | exact words_lt _ _ | exact mixW_lt or64 | exact mixW_lt and64 | exact mixW_lt minus64) _ | (simp only [decide_eq_true_eq, decide_eq_false_iff_not, Bool.or_eq_false_iff, Bool.and_eq_true, Bool.not_eq_true', Bool.not_eq_false', bne_iff_ne, ne_eq, bne_eq_false_iff_eq, beq_iff_eq, beq_eq_false_iff_ne, Bool.and_eq_false_iff, ints_length, u64s_length, words_length, mixW_length, List.length_replicate] at *; omega)) (by first | omega | decide | exact pow_lt64 _ | exact getD_lt (by first | assumption | exact words_lt _ _ | exact mixW_lt or64 | exact mixW_lt and64 | exact mixW_lt minus64) _ | (simp only [decide_eq_true_eq, decide_eq_false_iff_not, Bool.or_eq_false_iff, Bool.and_eq_true, Bool.not_eq_true', Bool.not_eq_false', bne_iff_ne, ne_eq, bne_eq_false_iff_eq, beq_iff_eq, beq_eq_false_iff_ne, Bool.and_eq_false_iff, ints_length, u64s_length, words_length, mixW_length, List.length_replicate] at *; omega))) | exact fzP_u64 (ofV_f (by first | omega | decide | exact pow_lt64 _ | exact getD_lt (by first | assumption | exact words_lt _ _ | exact mixW_lt or64 | exact mixW_lt and64 | exact mixW_lt minus64) _ | (simp only [decide_eq_true_eq, decide_eq_false_iff_not, Bool.or_eq_false_iff, Bool.and_eq_true, Bool.not_eq_true', Bool.not_eq_false', bne_iff_ne, ne_eq, bne_eq_false_iff_eq, beq_iff_eq, beq_eq_false_iff_ne, Bool.and_eq_false_iff, ints_length, u64s_length, words_length, mixW_length, List.length_replicate] at *; omega)) (by first | omega | decide | exact pow_lt64 _ | exact getD_lt (by first | assumption | exact words_lt _ _ | exact mixW_lt or64 | exact mixW_lt and64 | exact mixW_lt minus64) _ | (simp only [decide_eq_true_eq, decide_eq_false_iff_not, Bool.or_eq_false_iff, Bool.and_eq_true, Bool.not_eq_true', Bool.not_eq_false', bne_iff_ne, ne_eq, bne_eq_false_iff_eq, beq_iff_eq, beq_eq_false_iff_ne, Bool.and_eq_false_iff, ints_length, u64s_length, words_length, mixW_length, List.length_replicate] at *; omega)) (by first | omega | decide | exact pow_lt64 _ | exact getD_lt (by first | assumption | exact words_lt _ _ | exact mixW_lt or64 | exact mixW_lt and64 | exact mixW_lt minus64) _ | (simp only [decide_eq_true_eq, decide_eq_false_iff_not, Bool.or_eq_false_iff, Bool.and_eq_true, Bool.not_eq_true', Bool.not_eq_false', bne_iff_ne, ne_eq, bne_eq_false_iff_eq, beq_iff_eq, beq_eq_false_iff_ne, Bool.and_eq_false_iff, ints_length, u64s_length, words_length, mixW_length, List.length_replicate] at *; omega))) | exact fzP_u64 (words_zero K).symm |  rfl | exact fzP_pure (ints_pure _) | exact fzP_pure (u64s_pure _) | exact fzP_pure (by assumption) | exact fzP_pure (by first | (simp [pureE, pure1, ints]; done) | (simp_all [pe_int, pe_bool, pe_str, pe_sl, pe_agg, p1_int, p1_bool, p1_str, p1_sl]; done)))⟩, trivial⟩ ?_ ?_)); repeat (first | exact only_refl | refine only_put rfl ?_ | refine only_less rfl ?_ | refine only_ov rfl ?_))
    | ((with_reducible apply n_val); rfl; rfl)
    | ((with_reducible apply n_new); rfl; (first | (simp only [hn0, hn1, hn2, hn3, hn4, hn5, List.length_cons, List.length_nil, Nat.reduceAdd, Nat.zero_add]; done) | (simp only [hn0, hn1, hn2, hn3, hn4, hn5, List.length_cons, List.length_nil, Nat.reduceAdd, Nat.zero_add]; rfl) | rfl); rfl)
    | ((with_reducible apply n_store); rfl; rfl; rfl; rfl; rfl)
    | ((with_reducible apply n_freshL ); (first | (simp only [hn0, hn1, hn2, hn3, hn4, hn5, List.length_cons, List.length_nil, Nat.reduceAdd, Nat.zero_add]; done) | (simp only [hn0, hn1, hn2, hn3, hn4, hn5, List.length_cons, List.length_nil, Nat.reduceAdd, Nat.zero_add]; rfl) | rfl); rfl; rfl; exact hN; rfl; (repeat (first | exact ShL.nil | apply ShL.none | (apply ShL.some; (first | rfl | exact shiftPs_pure (u64s_pure _) | exact shiftPs_pure (ints_pure _) | exact shiftPs_pure (vals_pure (fun _ => rfl) _))))))
    | ((with_reducible apply n_callb (f := 104)); rfl; exact softs_set rfl (by first | rfl | simp only [words_length, List.length_replicate] ) rfl; exact p_bits_is N _ _ rfl; rfl)
    | ((with_reducible apply n_call (f := 105)); rfl; rfl; exact p_bits_at _ (by first | omega | decide | exact pow_lt64 _ | exact getD_lt (by first | assumption | exact words_lt _ _ | exact mixW_lt or64 | exact mixW_lt and64 | exact mixW_lt minus64) _ | (simp only [decide_eq_true_eq, decide_eq_false_iff_not, Bool.or_eq_false_iff, Bool.and_eq_true, Bool.not_eq_true', Bool.not_eq_false', bne_iff_ne, ne_eq, bne_eq_false_iff_eq, beq_iff_eq, beq_eq_false_iff_ne, Bool.and_eq_false_iff, ints_length, u64s_length, words_length, mixW_length, List.length_replicate] at *; omega)))
    | (with_reducible refine condT_split (fun h => ?_) (fun h => ?_))
    | ((with_reducible apply fnQ_told_ret); rfl)
    | ((with_reducible apply fnQ_ret_soft); rfl; rfl)
  all_goals (try dsimp only at *)
  all_goals (try simp only [decide_eq_true_eq, decide_eq_false_iff_not, ints_length] at *)
  · omega
  · omega
  · omega
  · omega
  · subst hK
    rw [take_all (by omega)]
  · omega
theorem p_bits_Leq (m : Int) (ws : List Nat) (n : Int) (us : List Nat) (hw : W64 ws) (hu : W64 us) : Pure Go.Proofs.Tryz.prog gl 21 [sv m ws, sv n us] (.bool (decide (minus (vN m ws) (vN n us) = 0))) := by
  have h1 := nN_r m ws
  have h2 := nN_r n us
  have hv : minus (vN m ws) (vN n us) < 2 ^ (max (nN m ws) (nN n us)).toNat := minus_lt (Nat.lt_of_lt_of_le (vN_lt m ws) (Nat.pow_le_pow_right (by omega) (by omega)))
  have hm := p_bits_Minus (gl := gl) m ws n us hw hu
  have hc := p_bits_Count (gl := gl) (max (nN m ws) (nN n us)) (words (wN (max (nN m ws) (nN n us))) (minus (vN m ws) (vN n us))) (words_lt _ _)
  rw [vN_mk (by omega) (by omega) hv] at hc
  rw [← cn_zero (Nat.lt_of_lt_of_le hv (Nat.pow_le_pow_right (by omega) (by omega)))]
  generalize cn (minus (vN m ws) (vN n us)) = c at *
  refine Pure.fn hmix b21 ?_
  repeat' first
    | with_reducible refine tr_seq ?_
    | ((with_reducible refine tr_region_f ?_ ?_); kernel_rfl)
    | with_reducible refine n_nil ?_
    | with_reducible refine seqQ_normal ?_
    | with_reducible refine seqQ_ret ?_
    | with_reducible refine blkQ_ret ?_
    | with_reducible refine tr_ret ?_
    | refine n_call (f := 49) rfl rfl hm ?_
    | refine n_call (f := 48) rfl rfl hc ?_
    | ((with_reducible apply n_val); rfl; rfl)
    | ((with_reducible apply n_new); rfl; (first | (simp only [hn0, hn1, hn2, hn3, hn4, hn5, List.length_cons, List.length_nil, Nat.reduceAdd, Nat.zero_add]; done) | (simp only [hn0, hn1, hn2, hn3, hn4, hn5, List.length_cons, List.length_nil, Nat.reduceAdd, Nat.zero_add]; rfl) | rfl); rfl)
    | ((with_reducible apply fnQ_told_ret); rfl)
    | ((with_reducible apply fnQ_ret_soft); rfl; rfl)
  rfl
end
end Go.Vm
end
