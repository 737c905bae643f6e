/- Laid. -/
import Derived.Test.YtjegabeechopdaaCbitsG
import Derived.Test.YtjegabeechopdaaWbitsE
import Derived.Test.YtjegabeechopdaaLBitsAll
/- Walks. -/
set_option maxRecDepth 100000
set_option linter.unusedSimpArgs false
set_option linter.unusedVariables false
namespace Go.Vm
open Go

section
variable {gl : Nat → Option PV}
set_option maxHeartbeats 4000000
set_option exponentiation.threshold 2000
theorem p_ref_bit (ws : List Nat) (i : Int) (hw : W64 ws) (h : 0 ≤ i ∧ i < 64 * ws.length) (hl : ws.length ≤ 16) : Pure Go.Proofs.Try.prog gl 118 [.sl (u64s ws), .int .i64 i] (.bool ((val ws).testBit i.toNat)) := by
  refine Pure.fn hmix b118 ?_
  repeat' first
    | with_reducible refine tr_seq ?_
    | ((with_reducible refine tr_region_f ?_ ?_); kernel_rfl)
    | with_reducible refine n_nil ?_
    | with_reducible refine seqQ_normal ?_
    | with_reducible refine seqQ_ret ?_
    | with_reducible refine blkQ_ret ?_
    | with_reducible refine tr_ret ?_
    | (first | ((with_reducible apply n_bin); rfl; rfl; focus ((with_reducible (first | apply b_add | apply b_sub | apply b_quo64 | apply b_rem64 | apply b_shl1 | apply b_shr | apply b_or64 | apply b_and1 | apply b_and64 | apply b_andNot64 | apply b_mul)) <;> first | omega | decide | exact pow_lt64 _ | exact div_lt64 (by assumption) _ _ | exact getD_lt (by first | assumption | exact words_lt _ _ | exact mixW_lt or64 | exact mixW_lt and64 | exact mixW_lt minus64) _ | (simp only [decide_eq_true_eq, decide_eq_false_iff_not, Bool.or_eq_false_iff, Bool.and_eq_true, Bool.not_eq_true', Bool.not_eq_false', bne_iff_ne, ne_eq, bne_eq_false_iff_eq, beq_iff_eq, beq_eq_false_iff_ne, Bool.and_eq_false_iff, ints_length, u64s_length, words_length, mixW_length, List.length_replicate] at *; omega))) | ((with_reducible apply n_min); rfl; rfl) | ((with_reducible apply n_max); rfl; rfl) | ((first | ((with_reducible apply n_conv); rfl; with_reducible apply wrap_u64_of) | ((with_reducible apply n_idx_u64); rfl; rfl) | ((with_reducible apply n_idx_own); rfl; rfl; rfl) | ((with_reducible apply n_load_u64); rfl; rfl) | ((with_reducible apply n_store_u64); rfl; rfl; rfl) | ((with_reducible apply n_mk64); rfl; rfl)); first | omega | decide | exact pow_lt64 _ | exact div_lt64 (by assumption) _ _ | exact getD_lt (by first | assumption | exact words_lt _ _ | exact mixW_lt or64 | exact mixW_lt and64 | exact mixW_lt minus64) _ | (simp only [decide_eq_true_eq, decide_eq_false_iff_not, Bool.or_eq_false_iff, Bool.and_eq_true, Bool.not_eq_true', Bool.not_eq_false', bne_iff_ne, ne_eq, bne_eq_false_iff_eq, beq_iff_eq, beq_eq_false_iff_ne, Bool.and_eq_false_iff, ints_length, u64s_length, words_length, mixW_length, List.length_replicate] at *; omega)) | ((with_reducible apply fnQ_ret_set); rfl; rfl; (first | rfl | exact (by simp only [words_length, mixW_length, List.length_replicate, List.length_set]))))
    | ((with_reducible apply n_val); rfl; rfl)
    | ((with_reducible apply fnQ_told_ret); rfl)
    | ((with_reducible apply fnQ_ret_soft); rfl; rfl)
  exact congrArg PV.bool (bit_code hw h.1)
theorem f_ref_New (n : Int) : Fresh Go.Proofs.Try.prog gl 121 [.int .i64 n] (.agg [.int .i64 (clN n), .ref 1 0 0 (wN (clN n))]) (Hp.ofL [none, some ⟨0, 1, u64s (List.replicate (wN (clN n)) 0)⟩]) := by
  have hr := clN_r n
  refine Fresh.fnL hmix b121 ?_
  repeat' first
    | with_reducible refine tr_seq ?_
    | ((with_reducible refine tr_region_f ?_ ?_); kernel_rfl)
    | with_reducible refine n_nil ?_
    | with_reducible refine seqQ_normal ?_
    | with_reducible refine seqQ_ret ?_
    | with_reducible refine blkQ_ret ?_
    | with_reducible refine tr_ret ?_
    | (first | ((with_reducible apply n_bin); rfl; rfl; focus ((with_reducible (first | apply b_add | apply b_sub | apply b_quo64 | apply b_rem64 | apply b_shl1 | apply b_shr | apply b_or64 | apply b_and1 | apply b_and64 | apply b_andNot64 | apply b_mul)) <;> first | omega | decide | exact pow_lt64 _ | exact div_lt64 (by assumption) _ _ | exact getD_lt (by first | assumption | exact words_lt _ _ | exact mixW_lt or64 | exact mixW_lt and64 | exact mixW_lt minus64) _ | (simp only [decide_eq_true_eq, decide_eq_false_iff_not, Bool.or_eq_false_iff, Bool.and_eq_true, Bool.not_eq_true', Bool.not_eq_false', bne_iff_ne, ne_eq, bne_eq_false_iff_eq, beq_iff_eq, beq_eq_false_iff_ne, Bool.and_eq_false_iff, ints_length, u64s_length, words_length, mixW_length, List.length_replicate] at *; omega))) | ((with_reducible apply n_min); rfl; rfl) | ((with_reducible apply n_max); rfl; rfl) | ((first | ((with_reducible apply n_conv); rfl; with_reducible apply wrap_u64_of) | ((with_reducible apply n_idx_u64); rfl; rfl) | ((with_reducible apply n_idx_own); rfl; rfl; rfl) | ((with_reducible apply n_load_u64); rfl; rfl) | ((with_reducible apply n_store_u64); rfl; rfl; rfl) | ((with_reducible apply n_mk64); rfl; rfl)); first | omega | decide | exact pow_lt64 _ | exact div_lt64 (by assumption) _ _ | exact getD_lt (by first | assumption | exact words_lt _ _ | exact mixW_lt or64 | exact mixW_lt and64 | exact mixW_lt minus64) _ | (simp only [decide_eq_true_eq, decide_eq_false_iff_not, Bool.or_eq_false_iff, Bool.and_eq_true, Bool.not_eq_true', Bool.not_eq_false', bne_iff_ne, ne_eq, bne_eq_false_iff_eq, beq_iff_eq, beq_eq_false_iff_ne, Bool.and_eq_false_iff, ints_length, u64s_length, words_length, mixW_length, List.length_replicate] at *; omega)) | ((with_reducible apply fnQ_ret_set); rfl; rfl; (first | rfl | exact (by simp only [words_length, mixW_length, List.length_replicate, List.length_set]))))
    | ((with_reducible apply n_val); rfl; rfl)
    | ((with_reducible apply n_new); rfl; (first | (simp only [hn0, hn1, hn2, hn3, hn4, hn5, List.length_cons, List.length_nil, Nat.reduceAdd, Nat.zero_add]; done) | (simp only [hn0, hn1, hn2, hn3, hn4, hn5, List.length_cons, List.length_nil, Nat.reduceAdd, Nat.zero_add]; rfl) | rfl); rfl)
    | ((with_reducible apply n_store); rfl; rfl; rfl; rfl; rfl)
    | ((with_reducible apply fnQ_told_ret); rfl)
    | ((with_reducible apply fnQ_ret_soft); rfl; rfl)
  · rfl
  · exact ⟨⟨_, rfl, rfl, rfl, fzP_pure (u64s_pure _)⟩, trivial⟩
theorem p_ref_Sane (n : Int) (ws : List Nat) (hw : W64 ws) : Pure Go.Proofs.Try.prog gl 120 [sv n ws] (.bool (bSane n ws)) := by
  refine Pure.fn hmix b120 ?_
  repeat' first
    | with_reducible refine tr_seq ?_
    | ((with_reducible refine tr_region_f ?_ ?_); kernel_rfl)
    | with_reducible refine n_nil ?_
    | exact ⟨rfl, rfl⟩
    | with_reducible refine seqQ_normal ?_
    | with_reducible refine seqQ_exit ?_
    | with_reducible refine seqQ_ret ?_
    | with_reducible refine blkQ_normal ?_
    | with_reducible refine blkQ_exit ?_
    | with_reducible refine blkQ_ret ?_
    | ((with_reducible refine blkQ_exit_ne ?_ ?_); rfl)
    | with_reducible refine tr_block ?_
    | with_reducible refine tr_skip ?_
    | with_reducible refine tr_exit ?_
    | with_reducible refine tr_ret ?_
    | ((with_reducible apply tr_cond_e); rfl)
    | with_reducible refine condT_t ?_
    | with_reducible refine condT_f ?_
    | ((with_reducible apply n_and); rfl; rfl; intro h)
    | ((with_reducible apply n_or); rfl; rfl; intro h)
    | with_reducible refine loopV_exit ?_
    | with_reducible refine loopV_ret ?_
    | (first | ((with_reducible apply n_bin); rfl; rfl; focus ((with_reducible (first | apply b_add | apply b_sub | apply b_quo64 | apply b_rem64 | apply b_shl1 | apply b_shr | apply b_or64 | apply b_and1 | apply b_and64 | apply b_andNot64 | apply b_mul)) <;> first | omega | decide | exact pow_lt64 _ | exact div_lt64 (by assumption) _ _ | exact getD_lt (by first | assumption | exact words_lt _ _ | exact mixW_lt or64 | exact mixW_lt and64 | exact mixW_lt minus64) _ | (simp only [decide_eq_true_eq, decide_eq_false_iff_not, Bool.or_eq_false_iff, Bool.and_eq_true, Bool.not_eq_true', Bool.not_eq_false', bne_iff_ne, ne_eq, bne_eq_false_iff_eq, beq_iff_eq, beq_eq_false_iff_ne, Bool.and_eq_false_iff, ints_length, u64s_length, words_length, mixW_length, List.length_replicate] at *; omega))) | ((with_reducible apply n_min); rfl; rfl) | ((with_reducible apply n_max); rfl; rfl) | ((first | ((with_reducible apply n_conv); rfl; with_reducible apply wrap_u64_of) | ((with_reducible apply n_idx_u64); rfl; rfl) | ((with_reducible apply n_idx_own); rfl; rfl; rfl) | ((with_reducible apply n_load_u64); rfl; rfl) | ((with_reducible apply n_store_u64); rfl; rfl; rfl) | ((with_reducible apply n_mk64); rfl; rfl)); first | omega | decide | exact pow_lt64 _ | exact div_lt64 (by assumption) _ _ | exact getD_lt (by first | assumption | exact words_lt _ _ | exact mixW_lt or64 | exact mixW_lt and64 | exact mixW_lt minus64) _ | (simp only [decide_eq_true_eq, decide_eq_false_iff_not, Bool.or_eq_false_iff, Bool.and_eq_true, Bool.not_eq_true', Bool.not_eq_false', bne_iff_ne, ne_eq, bne_eq_false_iff_eq, beq_iff_eq, beq_eq_false_iff_ne, Bool.and_eq_false_iff, ints_length, u64s_length, words_length, mixW_length, List.length_replicate] at *; omega)) | ((with_reducible apply fnQ_ret_set); rfl; rfl; (first | rfl | exact (by simp only [words_length, mixW_length, List.length_replicate, List.length_set]))))
    | (refine tr_loop_v (α := Int) 1 (fun | i => [(3, some (.int .i64 i)), (24, none), (25, none), (26, none), (27, none), (28, none), (29, none), (32, none), (33, none), (34, none), (35, none), (2, none), (30, none), (31, none)]) (fun | i => [some ⟨0, 2, [sv n ws]⟩]) (fun | i => n ≤ i ∧ i ≤ 64 * ws.length ∧ ∀ j : Nat, n.toNat ≤ j → j < i.toNat → (val ws).testBit j = false) (fun | i => (64 * ws.length - i).toNat) n (ks := [3, 24, 25, 26, 27, 28, 29, 32, 33, 34, 35, 2, 30, 31]) (fun _ => rfl) (fun _ => rfl) rfl (by omega) ?_ ⟨⟨_, rfl, rfl⟩, trivial⟩ ⟨⟨_, rfl, rfl, rfl, (by first |  rfl | exact fzP_pure (ints_pure _) | exact fzP_pure (u64s_pure _) | exact fzP_pure (by assumption) | exact fzP_pure (by first | (simp [pureE, pure1, ints]; done) | (simp_all [pe_int, pe_bool, pe_str, pe_sl, pe_agg, p1_int, p1_bool, p1_str, p1_sl]; done)))⟩, trivial⟩ ?_; rotate_left; rintro i hx; try dsimp only at hx)
    | (refine loopV_normal _ ?_ ⟨⟨_, rfl, rfl⟩, trivial⟩ ⟨⟨_, rfl, rfl, rfl, (by first |  rfl | exact fzP_pure (ints_pure _) | exact fzP_pure (u64s_pure _) | exact fzP_pure (by assumption) | exact fzP_pure (by first | (simp [pureE, pure1, ints]; done) | (simp_all [pe_int, pe_bool, pe_str, pe_sl, pe_agg, p1_int, p1_bool, p1_str, p1_sl]; done)))⟩, trivial⟩ ?_ ?_; repeat (first | exact only_refl | refine only_put rfl ?_ | refine only_less rfl ?_ | refine only_ov rfl ?_))
    | ((with_reducible apply n_val); rfl; rfl)
    | ((with_reducible apply n_new); rfl; (first | (simp only [hn0, hn1, hn2, hn3, hn4, hn5, List.length_cons, List.length_nil, Nat.reduceAdd, Nat.zero_add]; done) | (simp only [hn0, hn1, hn2, hn3, hn4, hn5, List.length_cons, List.length_nil, Nat.reduceAdd, Nat.zero_add]; rfl) | rfl); rfl)
    | ((with_reducible apply n_call (f := 118)); rfl; rfl; exact p_ref_bit ws _ hw (by first | omega | decide | exact pow_lt64 _ | exact div_lt64 (by assumption) _ _ | exact getD_lt (by first | assumption | exact words_lt _ _ | exact mixW_lt or64 | exact mixW_lt and64 | exact mixW_lt minus64) _ | (simp only [decide_eq_true_eq, decide_eq_false_iff_not, Bool.or_eq_false_iff, Bool.and_eq_true, Bool.not_eq_true', Bool.not_eq_false', bne_iff_ne, ne_eq, bne_eq_false_iff_eq, beq_iff_eq, beq_eq_false_iff_ne, Bool.and_eq_false_iff, ints_length, u64s_length, words_length, mixW_length, List.length_replicate] at *; omega)) (by first | omega | decide | exact pow_lt64 _ | exact div_lt64 (by assumption) _ _ | exact getD_lt (by first | assumption | exact words_lt _ _ | exact mixW_lt or64 | exact mixW_lt and64 | exact mixW_lt minus64) _ | (simp only [decide_eq_true_eq, decide_eq_false_iff_not, Bool.or_eq_false_iff, Bool.and_eq_true, Bool.not_eq_true', Bool.not_eq_false', bne_iff_ne, ne_eq, bne_eq_false_iff_eq, beq_iff_eq, beq_eq_false_iff_ne, Bool.and_eq_false_iff, ints_length, u64s_length, words_length, mixW_length, List.length_replicate] at *; omega)))
    | (with_reducible refine condT_split (fun h => ?_) (fun h => ?_))
    | ((with_reducible apply fnQ_told_ret); rfl)
    | ((with_reducible apply fnQ_ret_soft); rfl; rfl)
  all_goals (try dsimp only at *)
  all_goals simp only [Bool.or_eq_true, Bool.or_eq_false_iff, decide_eq_true_eq, decide_eq_false_iff_not, bne_iff_ne, ne_eq, bne_eq_false_iff_eq, u64s_length] at *
  · refine congrArg PV.bool (Eq.symm ?_)
    rw [bSane_false_iff]
    unfold wN
    omega
  · rw [sane_found (by omega) hx.1 (by assumption)]
  · omega
  · refine ⟨by omega, by omega, fun j h1 h2 => ?_⟩
    by_cases e : j = i.toNat
    · subst e; assumption
    · exact hx.2.2 j h1 (by omega)
  · rw [sane_all hw (by omega) (by omega) (by omega) fun j h1 h2 => hx.2.2 j h1 (by omega)]
  · exact ⟨by omega, by omega, fun j h1 h2 => by omega⟩
theorem p_ref_size (n : Int) (ws : List Nat) (hw : W64 ws) : Pure Go.Proofs.Try.prog gl 115 [sv n ws] (.int .i64 (nN n ws)) := by
  refine Pure.fn hmix b115 ?_
  repeat' first
    | with_reducible refine tr_seq ?_
    | ((with_reducible refine tr_region_f ?_ ?_); kernel_rfl)
    | with_reducible refine n_nil ?_
    | with_reducible refine seqQ_normal ?_
    | with_reducible refine seqQ_ret ?_
    | with_reducible refine blkQ_ret ?_
    | with_reducible refine tr_skip ?_
    | with_reducible refine tr_ret ?_
    | ((with_reducible apply tr_cond_e); rfl)
    | with_reducible refine condT_t ?_
    | with_reducible refine condT_f ?_
    | ((with_reducible apply n_val); rfl; rfl)
    | ((with_reducible apply n_new); rfl; (first | (simp only [hn0, hn1, hn2, hn3, hn4, hn5, List.length_cons, List.length_nil, Nat.reduceAdd, Nat.zero_add]; done) | (simp only [hn0, hn1, hn2, hn3, hn4, hn5, List.length_cons, List.length_nil, Nat.reduceAdd, Nat.zero_add]; rfl) | rfl); rfl)
    | ((with_reducible apply n_call (f := 120)); rfl; rfl; exact p_ref_Sane n ws hw)
    | (with_reducible refine condT_split (fun h => ?_) (fun h => ?_))
    | ((with_reducible apply fnQ_told_ret); rfl)
    | ((with_reducible apply fnQ_ret_soft); rfl; rfl)
  · rw [unsane_nN (by simpa using h)]
  · rw [sane_nN (by simpa using h)]
theorem p_ref_Equal (m : Int) (ws : List Nat) (n : Int) (us : List Nat) (hl : ws.length ≤ 1000000) : Pure Go.Proofs.Try.prog gl 77 [sv m ws, sv n us] (.bool (m == n && ws == us)) := by
  refine Pure.fn hmix b77 ?_
  repeat' first
    | with_reducible refine tr_seq ?_
    | ((with_reducible refine tr_region_f ?_ ?_); kernel_rfl)
    | ((with_reducible refine tr_region_t ?_ ?_ ?_); kernel_rfl; kernel_rfl)
    | with_reducible refine n_nil ?_
    | exact ⟨rfl, rfl⟩
    | with_reducible refine seqQ_normal ?_
    | with_reducible refine seqQ_exit ?_
    | with_reducible refine seqQ_ret ?_
    | with_reducible refine blkQ_normal ?_
    | with_reducible refine blkQ_exit ?_
    | with_reducible refine blkQ_ret ?_
    | ((with_reducible refine blkQ_exit_ne ?_ ?_); rfl)
    | with_reducible refine tr_block ?_
    | with_reducible refine tr_skip ?_
    | with_reducible refine tr_exit ?_
    | with_reducible refine tr_ret ?_
    | ((with_reducible apply tr_cond_e); rfl)
    | with_reducible refine condT_t ?_
    | with_reducible refine condT_f ?_
    | ((with_reducible apply n_and); rfl; rfl; intro h)
    | ((with_reducible apply n_or); rfl; rfl; intro h)
    | with_reducible refine loopV_exit ?_
    | with_reducible refine loopV_ret ?_
    | (first | ((with_reducible apply n_bin); rfl; rfl; focus ((with_reducible (first | apply b_add | apply b_sub | apply b_quo64 | apply b_rem64 | apply b_shl1 | apply b_shr | apply b_or64 | apply b_and1 | apply b_and64 | apply b_andNot64 | apply b_mul)) <;> first | omega | decide | exact pow_lt64 _ | exact div_lt64 (by assumption) _ _ | exact getD_lt (by first | assumption | exact words_lt _ _ | exact mixW_lt or64 | exact mixW_lt and64 | exact mixW_lt minus64) _ | (simp only [decide_eq_true_eq, decide_eq_false_iff_not, Bool.or_eq_false_iff, Bool.and_eq_true, Bool.not_eq_true', Bool.not_eq_false', bne_iff_ne, ne_eq, bne_eq_false_iff_eq, beq_iff_eq, beq_eq_false_iff_ne, Bool.and_eq_false_iff, ints_length, u64s_length, words_length, mixW_length, List.length_replicate] at *; omega))) | ((with_reducible apply n_min); rfl; rfl) | ((with_reducible apply n_max); rfl; rfl) | ((first | ((with_reducible apply n_conv); rfl; with_reducible apply wrap_u64_of) | ((with_reducible apply n_idx_u64); rfl; rfl) | ((with_reducible apply n_idx_own); rfl; rfl; rfl) | ((with_reducible apply n_load_u64); rfl; rfl) | ((with_reducible apply n_store_u64); rfl; rfl; rfl) | ((with_reducible apply n_mk64); rfl; rfl)); first | omega | decide | exact pow_lt64 _ | exact div_lt64 (by assumption) _ _ | exact getD_lt (by first | assumption | exact words_lt _ _ | exact mixW_lt or64 | exact mixW_lt and64 | exact mixW_lt minus64) _ | (simp only [decide_eq_true_eq, decide_eq_false_iff_not, Bool.or_eq_false_iff, Bool.and_eq_true, Bool.not_eq_true', Bool.not_eq_false', bne_iff_ne, ne_eq, bne_eq_false_iff_eq, beq_iff_eq, beq_eq_false_iff_ne, Bool.and_eq_false_iff, ints_length, u64s_length, words_length, mixW_length, List.length_replicate] at *; omega)) | ((with_reducible apply fnQ_ret_set); rfl; rfl; (first | rfl | exact (by simp only [words_length, mixW_length, List.length_replicate, List.length_set]))))
    | (refine tr_loop_v (α := Int) 2 (fun | i => [(5, some (.int .i64 i)), (20, none), (21, none), (22, none), (23, none), (24, none), (27, none), (28, none), (29, none), (30, none), (31, none), (32, none), (33, none), (34, none), (35, none), (36, none), (37, none), (4, none), (25, none), (26, none)]) (fun | i => [some ⟨0, 2, [sv m ws]⟩, some ⟨0, 2, [sv n us]⟩]) (fun | i => 0 ≤ i ∧ i ≤ ws.length ∧ ws.length = us.length ∧ ws.take i.toNat = us.take i.toNat) (fun | i => (ws.length - i).toNat) 0 (ks := [5, 20, 21, 22, 23, 24, 27, 28, 29, 30, 31, 32, 33, 34, 35, 36, 37, 4, 25, 26]) (fun _ => rfl) (fun _ => rfl) rfl (by omega) ?_ ⟨⟨_, rfl, rfl⟩, trivial⟩ ⟨⟨_, rfl, rfl, rfl, (by first |  rfl | exact fzP_pure (ints_pure _) | exact fzP_pure (u64s_pure _) | exact fzP_pure (by assumption) | exact fzP_pure (by first | (simp [pureE, pure1, ints]; done) | (simp_all [pe_int, pe_bool, pe_str, pe_sl, pe_agg, p1_int, p1_bool, p1_str, p1_sl]; done)))⟩, ⟨_, rfl, rfl, rfl, (by first |  rfl | exact fzP_pure (ints_pure _) | exact fzP_pure (u64s_pure _) | exact fzP_pure (by assumption) | exact fzP_pure (by first | (simp [pureE, pure1, ints]; done) | (simp_all [pe_int, pe_bool, pe_str, pe_sl, pe_agg, p1_int, p1_bool, p1_str, p1_sl]; done)))⟩, trivial⟩ ?_; rotate_left; rintro i hx; try dsimp only at hx)
    | (refine loopV_normal _ ?_ ⟨⟨_, rfl, rfl⟩, trivial⟩ ⟨⟨_, rfl, rfl, rfl, (by first |  rfl | exact fzP_pure (ints_pure _) | exact fzP_pure (u64s_pure _) | exact fzP_pure (by assumption) | exact fzP_pure (by first | (simp [pureE, pure1, ints]; done) | (simp_all [pe_int, pe_bool, pe_str, pe_sl, pe_agg, p1_int, p1_bool, p1_str, p1_sl]; done)))⟩, ⟨_, rfl, rfl, rfl, (by first |  rfl | exact fzP_pure (ints_pure _) | exact fzP_pure (u64s_pure _) | exact fzP_pure (by assumption) | exact fzP_pure (by first | (simp [pureE, pure1, ints]; done) | (simp_all [pe_int, pe_bool, pe_str, pe_sl, pe_agg, p1_int, p1_bool, p1_str, p1_sl]; done)))⟩, trivial⟩ ?_ ?_; repeat (first | exact only_refl | refine only_put rfl ?_ | refine only_less rfl ?_ | refine only_ov rfl ?_))
    | ((with_reducible apply n_val); rfl; rfl)
    | ((with_reducible apply n_new); rfl; (first | (simp only [hn0, hn1, hn2, hn3, hn4, hn5, List.length_cons, List.length_nil, Nat.reduceAdd, Nat.zero_add]; done) | (simp only [hn0, hn1, hn2, hn3, hn4, hn5, List.length_cons, List.length_nil, Nat.reduceAdd, Nat.zero_add]; rfl) | rfl); rfl)
    | (with_reducible refine condT_split (fun h => ?_) (fun h => ?_))
    | ((with_reducible apply fnQ_told_ret); rfl)
    | ((with_reducible apply fnQ_ret_soft); rfl; rfl)
  all_goals (try dsimp only at *)
  all_goals simp only [Bool.or_eq_true, Bool.or_eq_false_iff, decide_eq_true_eq, decide_eq_false_iff_not, bne_iff_ne, ne_eq, bne_eq_false_iff_eq, u64s_length] at *
  · refine congrArg PV.bool (Eq.symm ?_)
    rw [Bool.and_eq_false_iff]
    rcases h with h | h
    · left; simpa using h
    · right
      have : ws ≠ us := fun e => h (by rw [e])
      simp [this]
  · have hne : ws ≠ us := by
      intro e
      subst e
      exact absurd rfl ‹¬ _ = _›
    simp [hne]
  · omega
  · have e : ws.getD i.toNat 0 = us.getD i.toNat 0 := by omega
    rw [take_snocN (by omega) (by omega), take_snocN (by omega) (by omega)]
    exact ⟨by omega, by omega, hx.2.2.1, by rw [hx.2.2.2, e]⟩
  · have : ws = us := by
      have := hx.2.2.2
      rwa [List.take_of_length_le (by omega), List.take_of_length_le (by omega)] at this
    have hm : m = n := by omega
    simp [this, hm]
  · exact ⟨by omega, by omega, by omega, rfl⟩
theorem p_Ints (l m : List Int) (hl : l.length ≤ 1000000000) : Pure Go.Proofs.Try.prog gl 59 [.sl (ints l), .sl (ints m)] (.bool (l == m)) := by
  refine Pure.fn hmix b59 ?_
  repeat' first
    | with_reducible refine tr_seq ?_
    | ((with_reducible refine tr_region_f ?_ ?_); kernel_rfl)
    | ((with_reducible refine tr_region_t ?_ ?_ ?_); kernel_rfl; kernel_rfl)
    | with_reducible refine n_nil ?_
    | with_reducible refine seqQ_normal ?_
    | with_reducible refine seqQ_exit ?_
    | with_reducible refine seqQ_ret ?_
    | with_reducible refine blkQ_normal ?_
    | with_reducible refine blkQ_exit ?_
    | with_reducible refine blkQ_ret ?_
    | ((with_reducible refine blkQ_exit_ne ?_ ?_); rfl)
    | with_reducible refine tr_block ?_
    | with_reducible refine tr_skip ?_
    | with_reducible refine tr_exit ?_
    | with_reducible refine tr_ret ?_
    | ((with_reducible apply tr_cond_e); rfl)
    | with_reducible refine condT_t ?_
    | with_reducible refine condT_f ?_
    | with_reducible refine loopV_exit ?_
    | with_reducible refine loopV_ret ?_
    | ((with_reducible apply n_idx_ints); rfl; rfl; (simp only [decide_eq_true_eq, ints_length, bne_iff_ne, ne_eq, bne_eq_false_iff_eq] at *; omega))
    | (refine tr_loop_v (α := Int) 0 (fun | i => [(5, some (.int .i64 i)), (11, none), (12, none), (13, none), (14, none), (17, none), (18, none), (19, none), (20, none), (21, none), (22, none), (23, none), (24, none), (25, none), (4, none), (15, none), (16, none)]) (fun | i => []) (fun | i => 0 ≤ i ∧ i ≤ l.length ∧ l.length = m.length ∧ l.take i.toNat = m.take i.toNat) (fun | i => (l.length - i).toNat) 0 (ks := [5, 11, 12, 13, 14, 17, 18, 19, 20, 21, 22, 23, 24, 25, 4, 15, 16]) (fun _ => rfl) (fun _ => rfl) rfl (by omega) ?_ ⟨⟨_, rfl, rfl⟩, trivial⟩ trivial ?_; rotate_left; rintro i hx; try dsimp only at hx)
    | (refine loopV_normal _ ?_ ⟨⟨_, rfl, rfl⟩, trivial⟩ trivial ?_ ?_; repeat (first | exact only_refl | refine only_put rfl ?_ | refine only_less rfl ?_ | refine only_ov rfl ?_))
    | ((with_reducible apply n_val); rfl; rfl)
    | (with_reducible refine condT_split (fun h => ?_) (fun h => ?_))
    | ((with_reducible apply fnQ_told_ret); rfl)
    | ((with_reducible apply fnQ_ret_soft); rfl; rfl)
  all_goals (try dsimp only at *)
  all_goals (try simp only [decide_eq_true_eq, decide_eq_false_iff_not, ints_length, bne_iff_ne, ne_eq, bne_eq_false_iff_eq] at *)
  · have : l ≠ m := fun e => h (by rw [e])
    simp [this]
  · have hne : l ≠ m := by
      intro e
      subst e
      exact absurd rfl ‹_›
    simp [hne]
  · rw [wrap_i64_of (by omega)]; omega
  · have e : l.getD i.toNat 0 = m.getD i.toNat 0 := by assumption
    rw [wrap_i64_of (by omega), take_snoc (by omega) (by omega), take_snoc (by omega) (by omega)]
    exact ⟨by omega, by omega, hx.2.2.1, by rw [hx.2.2.2, e]⟩
  · have : l = m := by
      have := hx.2.2.2
      rwa [take_all (by omega), List.take_of_length_le (by omega)] at this
    simp [this]
  · exact ⟨by omega, by omega, by omega, rfl⟩
theorem p_ref_List (n : Int) (ws : List Nat) (hw : W64 ws) : Pure Go.Proofs.Try.prog gl 114 [sv n ws] (.sl (ints (bList (vN n ws) (nN n ws)))) := by
  have hr := nN_r n ws
  have hsz := p_ref_size (gl := gl) n ws hw
  have hb : ∀ i : Int, 0 ≤ i → i < nN n ws → Pure Go.Proofs.Try.prog gl 118 [.sl (u64s ws), .int .i64 i] (.bool ((vN n ws).testBit i.toNat)) := by
    intro i h0 h1
    cases hs : bSane n ws with
    | false => rw [unsane_nN hs] at h1; omega
    | true =>
      have h4 := bSane_iff.1 hs
      rw [sane_nN hs] at h1
      rw [sane_vN hs]
      exact p_ref_bit ws i hw ⟨h0, by have := h4.2.2.1; unfold wN at this; omega⟩ (by have := h4.2.2.1; unfold wN at this; omega)
  generalize nN n ws = N at *
  generalize vN n ws = v at *
  refine Pure.fn hmix b114 ?_
  repeat' first
    | with_reducible refine tr_seq ?_
    | ((with_reducible refine tr_region_f ?_ ?_); kernel_rfl)
    | with_reducible refine n_nil ?_
    | with_reducible refine seqQ_normal ?_
    | with_reducible refine seqQ_exit ?_
    | with_reducible refine seqQ_ret ?_
    | with_reducible refine blkQ_normal ?_
    | with_reducible refine blkQ_exit ?_
    | with_reducible refine blkQ_ret ?_
    | ((with_reducible refine blkQ_exit_ne ?_ ?_); rfl)
    | with_reducible refine tr_block ?_
    | with_reducible refine tr_skip ?_
    | with_reducible refine tr_exit ?_
    | with_reducible refine tr_ret ?_
    | ((with_reducible apply tr_cond_e); rfl)
    | with_reducible refine condT_t ?_
    | with_reducible refine condT_f ?_
    | with_reducible refine loopV_exit ?_
    | with_reducible refine loopV_ret ?_
    | (first | ((with_reducible apply n_bin); rfl; rfl; focus ((with_reducible (first | apply b_add | apply b_sub | apply b_quo64 | apply b_rem64 | apply b_shl1 | apply b_shr | apply b_or64 | apply b_and1 | apply b_and64 | apply b_andNot64 | apply b_mul)) <;> first | omega | decide | exact pow_lt64 _ | exact div_lt64 (by assumption) _ _ | exact getD_lt (by first | assumption | exact words_lt _ _ | exact mixW_lt or64 | exact mixW_lt and64 | exact mixW_lt minus64) _ | (simp only [decide_eq_true_eq, decide_eq_false_iff_not, Bool.or_eq_false_iff, Bool.and_eq_true, Bool.not_eq_true', Bool.not_eq_false', bne_iff_ne, ne_eq, bne_eq_false_iff_eq, beq_iff_eq, beq_eq_false_iff_ne, Bool.and_eq_false_iff, ints_length, u64s_length, words_length, mixW_length, List.length_replicate] at *; omega))) | ((with_reducible apply n_min); rfl; rfl) | ((with_reducible apply n_max); rfl; rfl) | ((first | ((with_reducible apply n_conv); rfl; with_reducible apply wrap_u64_of) | ((with_reducible apply n_idx_u64); rfl; rfl) | ((with_reducible apply n_idx_own); rfl; rfl; rfl) | ((with_reducible apply n_load_u64); rfl; rfl) | ((with_reducible apply n_store_u64); rfl; rfl; rfl) | ((with_reducible apply n_mk64); rfl; rfl)); first | omega | decide | exact pow_lt64 _ | exact div_lt64 (by assumption) _ _ | exact getD_lt (by first | assumption | exact words_lt _ _ | exact mixW_lt or64 | exact mixW_lt and64 | exact mixW_lt minus64) _ | (simp only [decide_eq_true_eq, decide_eq_false_iff_not, Bool.or_eq_false_iff, Bool.and_eq_true, Bool.not_eq_true', Bool.not_eq_false', bne_iff_ne, ne_eq, bne_eq_false_iff_eq, beq_iff_eq, beq_eq_false_iff_ne, Bool.and_eq_false_iff, ints_length, u64s_length, words_length, mixW_length, List.length_replicate] at *; omega)) | ((with_reducible apply fnQ_ret_set); rfl; rfl; (first | rfl | exact (by simp only [words_length, mixW_length, List.length_replicate, List.length_set]))))
    | refine n_call (f := 115) rfl rfl hsz ?_
    | refine n_call (f := 118) rfl rfl (hb _ (by first | omega | decide | exact pow_lt64 _ | exact div_lt64 (by assumption) _ _ | exact getD_lt (by first | assumption | exact words_lt _ _ | exact mixW_lt or64 | exact mixW_lt and64 | exact mixW_lt minus64) _ | (simp only [decide_eq_true_eq, decide_eq_false_iff_not, Bool.or_eq_false_iff, Bool.and_eq_true, Bool.not_eq_true', Bool.not_eq_false', bne_iff_ne, ne_eq, bne_eq_false_iff_eq, beq_iff_eq, beq_eq_false_iff_ne, Bool.and_eq_false_iff, ints_length, u64s_length, words_length, mixW_length, List.length_replicate] at *; omega)) (by first | omega | decide | exact pow_lt64 _ | exact div_lt64 (by assumption) _ _ | exact getD_lt (by first | assumption | exact words_lt _ _ | exact mixW_lt or64 | exact mixW_lt and64 | exact mixW_lt minus64) _ | (simp only [decide_eq_true_eq, decide_eq_false_iff_not, Bool.or_eq_false_iff, Bool.and_eq_true, Bool.not_eq_true', Bool.not_eq_false', bne_iff_ne, ne_eq, bne_eq_false_iff_eq, beq_iff_eq, beq_eq_false_iff_ne, Bool.and_eq_false_iff, ints_length, u64s_length, words_length, mixW_length, List.length_replicate] at *; omega))) ?_
    | (refine tr_virt 3 1 1 rfl (by omega) rfl ?_; refine tr_loop_v (α := Int × Nat × List PV) 2 (fun | (i, g, l) => [(5, some (.int .i64 i)), (3, some (.ref 1 g 0 l.length)), (8, none), (9, none), (10, none), (13, none), (14, none), (15, none), (16, none), (17, none), (18, none), (19, none), (20, none), (11, none), (12, none)]) (fun | (i, g, l) => [some ⟨0, 2, [sv n ws]⟩, some ⟨g, 1, l⟩]) (fun | (i, g, l) => 0 ≤ i ∧ i ≤ N ∧ l = ints (bList v i) ∧ l.all pureE = true ∧ l.length ≤ i) (fun | (i, g, l) => (N - i).toNat) (0, 0, []) (ks := [5, 3, 8, 9, 10, 13, 14, 15, 16, 17, 18, 19, 20, 11, 12]) (fun _ => rfl) (fun _ => rfl) rfl (by omega) ?_ ⟨⟨_, rfl, rfl⟩, ⟨_, rfl, rfl⟩, trivial⟩ ⟨⟨_, rfl, rfl, rfl, (by first |  rfl | exact fzP_pure (ints_pure _) | exact fzP_pure (u64s_pure _) | exact fzP_pure (by assumption) | exact fzP_pure (by first | (simp [pureE, pure1, ints]; done) | (simp_all [pe_int, pe_bool, pe_str, pe_sl, pe_agg, p1_int, p1_bool, p1_str, p1_sl]; done)))⟩, ⟨_, rfl, rfl, rfl, (by first |  rfl | exact fzP_pure (ints_pure _) | exact fzP_pure (u64s_pure _) | exact fzP_pure (by assumption) | exact fzP_pure (by first | (simp [pureE, pure1, ints]; done) | (simp_all [pe_int, pe_bool, pe_str, pe_sl, pe_agg, p1_int, p1_bool, p1_str, p1_sl]; done)))⟩, trivial⟩ ?_; rotate_left; rintro ⟨i, g, l⟩ hx; try dsimp only at hx)
    | (refine loopV_normal (_, _, _) ?_ ⟨⟨_, rfl, rfl⟩, ⟨_, rfl, rfl⟩, trivial⟩ ⟨⟨_, rfl, rfl, rfl, (by first |  rfl | exact fzP_pure (ints_pure _) | exact fzP_pure (u64s_pure _) | exact fzP_pure (by assumption) | exact fzP_pure (by first | (simp [pureE, pure1, ints]; done) | (simp_all [pe_int, pe_bool, pe_str, pe_sl, pe_agg, p1_int, p1_bool, p1_str, p1_sl]; done)))⟩, ⟨_, rfl, rfl, rfl, (by first |  rfl | exact fzP_pure (ints_pure _) | exact fzP_pure (u64s_pure _) | exact fzP_pure (by assumption) | exact fzP_pure (by first | (simp [pureE, pure1, ints]; done) | (simp_all [pe_int, pe_bool, pe_str, pe_sl, pe_agg, p1_int, p1_bool, p1_str, p1_sl]; done)))⟩, trivial⟩ ?_ ?_; repeat (first | exact only_refl | refine only_put rfl ?_ | refine only_less rfl ?_ | refine only_ov rfl ?_))
    | ((with_reducible apply n_val); rfl; rfl)
    | ((with_reducible apply n_new); rfl; (first | (simp only [hn0, hn1, hn2, hn3, hn4, hn5, List.length_cons, List.length_nil, Nat.reduceAdd, Nat.zero_add]; done) | (simp only [hn0, hn1, hn2, hn3, hn4, hn5, List.length_cons, List.length_nil, Nat.reduceAdd, Nat.zero_add]; rfl) | rfl); rfl)
    | ((with_reducible apply n_append); rfl; rfl; rfl; rfl; rfl; rfl; (first | decide | (simp only [List.length_append, List.length_cons, List.length_nil, List.length_set, List.length_replicate, ints_length] at *; omega)); rfl)
    | ((with_reducible apply n_append_lit); rfl; rfl; rfl; rfl; rfl; (first | decide | (simp only [List.length_append, List.length_cons, List.length_nil, List.length_set, List.length_replicate, ints_length] at *; omega)); (first | (simp only [hn0, hn1, hn2, hn3, hn4, hn5, List.length_cons, List.length_nil, Nat.reduceAdd, Nat.zero_add]; done) | (simp only [hn0, hn1, hn2, hn3, hn4, hn5, List.length_cons, List.length_nil, Nat.reduceAdd, Nat.zero_add]; rfl) | rfl); rfl)
    | (with_reducible refine condT_split (fun h => ?_) (fun h => ?_))
    | ((with_reducible apply fnQ_told_ret); rfl)
    | ((with_reducible apply fnQ_ret_soft); rfl; rfl)
    | ((with_reducible apply fnQ_ret_row); rfl; rfl; rfl)
  all_goals (try dsimp only at *)
  · simp only [decide_eq_true_eq] at *; omega
  · obtain ⟨g0, g1, g2, g3, g4⟩ := hx
    simp only [decide_eq_true_eq] at *
    rw [bList_t g0 (by assumption)]
    refine ⟨by omega, by omega, by rw [g2]; simp [ints], ?_, ?_⟩
    · simp only [List.all_append, g3, Bool.true_and]; rfl
    · simp; omega
  · simp only [decide_eq_true_eq] at *; omega
  · obtain ⟨g0, g1, g2, g3, g4⟩ := hx
    simp only [decide_eq_true_eq] at *
    rw [bList_f g0 (by assumption)]
    exact ⟨by omega, by omega, g2, g3, by omega⟩
  · exact hx.2.2.2.1
  · simp only [decide_eq_false_iff_not] at h
    rw [hx.2.2.1, show i = N by omega]
  · exact ⟨by omega, by omega, rfl, rfl, by simp⟩
abbrev putH (N : Int) (K v : Nat) : List (Option Blk) := [some ⟨0, 2, [.agg [.int .i64 0, .lit []]]⟩, none, some ⟨0, 1, u64s (words K v)⟩, some ⟨0, 2, [.agg [.int .i64 N, .ref 2 0 0 K]]⟩]
theorem h_ref_put (N i : Int) (K v : Nat) (h0 : 0 ≤ i) (h1 : i < 64 * K) (h2 : i < 1024) : HSpec Go.Proofs.Try.prog gl 122 [.agg [.int .i64 N, .ref 2 0 0 K], .int .i64 i] (Hp.ofL (putH N K v)) (fun r0 G => r0 = .agg [.int .i64 N, .ref 2 0 0 K] ∧ G = Hp.ofL (putH N K (withB v i.toNat))) := by
  refine HSpec.fnL (Nat.le_refl _) hmix b122 ?_
  repeat' first
    | with_reducible refine tr_seq ?_
    | ((with_reducible refine tr_region_f ?_ ?_); kernel_rfl)
    | ((with_reducible refine tr_region_t ?_ ?_ ?_); kernel_rfl; kernel_rfl)
    | with_reducible refine n_nil ?_
    | with_reducible refine seqQ_normal ?_
    | with_reducible refine seqQ_ret ?_
    | with_reducible refine blkQ_ret ?_
    | with_reducible refine tr_ret ?_
    | (first | ((with_reducible apply n_bin); rfl; rfl; focus ((with_reducible (first | apply b_add | apply b_sub | apply b_quo64 | apply b_rem64 | apply b_shl1 | apply b_shr | apply b_or64 | apply b_and1 | apply b_and64 | apply b_andNot64 | apply b_mul)) <;> first | omega | decide | exact pow_lt64 _ | exact div_lt64 (by assumption) _ _ | exact getD_lt (by first | assumption | exact words_lt _ _ | exact mixW_lt or64 | exact mixW_lt and64 | exact mixW_lt minus64) _ | (simp only [decide_eq_true_eq, decide_eq_false_iff_not, Bool.or_eq_false_iff, Bool.and_eq_true, Bool.not_eq_true', Bool.not_eq_false', bne_iff_ne, ne_eq, bne_eq_false_iff_eq, beq_iff_eq, beq_eq_false_iff_ne, Bool.and_eq_false_iff, ints_length, u64s_length, words_length, mixW_length, List.length_replicate] at *; omega))) | ((with_reducible apply n_min); rfl; rfl) | ((with_reducible apply n_max); rfl; rfl) | ((first | ((with_reducible apply n_conv); rfl; with_reducible apply wrap_u64_of) | ((with_reducible apply n_idx_u64); rfl; rfl) | ((with_reducible apply n_idx_own); rfl; rfl; rfl) | ((with_reducible apply n_load_u64); rfl; rfl) | ((with_reducible apply n_store_u64); rfl; rfl; rfl) | ((with_reducible apply n_mk64); rfl; rfl)); first | omega | decide | exact pow_lt64 _ | exact div_lt64 (by assumption) _ _ | exact getD_lt (by first | assumption | exact words_lt _ _ | exact mixW_lt or64 | exact mixW_lt and64 | exact mixW_lt minus64) _ | (simp only [decide_eq_true_eq, decide_eq_false_iff_not, Bool.or_eq_false_iff, Bool.and_eq_true, Bool.not_eq_true', Bool.not_eq_false', bne_iff_ne, ne_eq, bne_eq_false_iff_eq, beq_iff_eq, beq_eq_false_iff_ne, Bool.and_eq_false_iff, ints_length, u64s_length, words_length, mixW_length, List.length_replicate] at *; omega)) | ((with_reducible apply fnQ_ret_set); rfl; rfl; (first | rfl | exact (by simp only [words_length, mixW_length, List.length_replicate, List.length_set]))))
    | ((with_reducible apply n_val); rfl; rfl)
    | ((with_reducible apply n_new); rfl; (first | (simp only [hn0, hn1, hn2, hn3, hn4, hn5, List.length_cons, List.length_nil, Nat.reduceAdd, Nat.zero_add]; done) | (simp only [hn0, hn1, hn2, hn3, hn4, hn5, List.length_cons, List.length_nil, Nat.reduceAdd, Nat.zero_add]; rfl) | rfl); rfl)
    | ((with_reducible apply n_store); rfl; rfl; rfl; rfl; rfl)
    | ((with_reducible apply fnQ_told_ret); rfl)
    | ((with_reducible apply fnQ_ret_soft); rfl; rfl)
  · rfl
  · exact ⟨⟨_, rfl, rfl, rfl, rfl⟩, ⟨_, rfl, rfl, rfl, fzP_u64 (set_with h0 h1)⟩, ⟨_, rfl, rfl, rfl, rfl⟩, trivial⟩
theorem p_ref_Of (n : Int) (l : List Int) (hl : l.length ≤ 1000000000) : Pure Go.Proofs.Try.prog gl 119 [.int .i64 n, .sl (ints l)] (mk (clN n) (ofV (clN n) l)) := by
  have hr := clN_r n
  have hN := f_ref_New (gl := gl) n
  have hk := wN_small hr.2
  have hk2 := wN_le hr.1
  generalize clN n = N at *
  generalize hK : wN N = K at *
  refine Pure.fn hmix b119 ?_
  repeat' first
    | with_reducible refine tr_seq ?_
    | ((with_reducible refine tr_region_f ?_ ?_); kernel_rfl)
    | ((with_reducible refine tr_region_b ?_ ?_ ?_); decide +kernel; decide +kernel)
    | ((with_reducible refine tr_region_t ?_ ?_ ?_); kernel_rfl; kernel_rfl)
    | with_reducible refine n_nil ?_
    | exact ⟨rfl, rfl⟩
    | with_reducible refine seqQ_normal ?_
    | with_reducible refine seqQ_exit ?_
    | with_reducible refine seqQ_ret ?_
    | with_reducible refine blkQ_normal ?_
    | with_reducible refine blkQ_exit ?_
    | with_reducible refine blkQ_ret ?_
    | ((with_reducible refine blkQ_exit_ne ?_ ?_); rfl)
    | with_reducible refine tr_block ?_
    | with_reducible refine tr_skip ?_
    | with_reducible refine tr_exit ?_
    | with_reducible refine tr_ret ?_
    | ((with_reducible apply tr_cond_e); rfl)
    | with_reducible refine condT_t ?_
    | with_reducible refine condT_f ?_
    | ((with_reducible apply n_and); rfl; rfl; intro h)
    | ((with_reducible apply n_or); rfl; rfl; intro h)
    | with_reducible refine loopV_exit ?_
    | with_reducible refine loopV_ret ?_
    | (first | ((with_reducible apply n_bin); rfl; rfl; focus ((with_reducible (first | apply b_add | apply b_sub | apply b_quo64 | apply b_rem64 | apply b_shl1 | apply b_shr | apply b_or64 | apply b_and1 | apply b_and64 | apply b_andNot64 | apply b_mul)) <;> first | omega | decide | exact pow_lt64 _ | exact div_lt64 (by assumption) _ _ | exact getD_lt (by first | assumption | exact words_lt _ _ | exact mixW_lt or64 | exact mixW_lt and64 | exact mixW_lt minus64) _ | (simp only [decide_eq_true_eq, decide_eq_false_iff_not, Bool.or_eq_false_iff, Bool.and_eq_true, Bool.not_eq_true', Bool.not_eq_false', bne_iff_ne, ne_eq, bne_eq_false_iff_eq, beq_iff_eq, beq_eq_false_iff_ne, Bool.and_eq_false_iff, ints_length, u64s_length, words_length, mixW_length, List.length_replicate] at *; omega))) | ((with_reducible apply n_min); rfl; rfl) | ((with_reducible apply n_max); rfl; rfl) | ((first | ((with_reducible apply n_conv); rfl; with_reducible apply wrap_u64_of) | ((with_reducible apply n_idx_u64); rfl; rfl) | ((with_reducible apply n_idx_own); rfl; rfl; rfl) | ((with_reducible apply n_load_u64); rfl; rfl) | ((with_reducible apply n_store_u64); rfl; rfl; rfl) | ((with_reducible apply n_mk64); rfl; rfl)); first | omega | decide | exact pow_lt64 _ | exact div_lt64 (by assumption) _ _ | exact getD_lt (by first | assumption | exact words_lt _ _ | exact mixW_lt or64 | exact mixW_lt and64 | exact mixW_lt minus64) _ | (simp only [decide_eq_true_eq, decide_eq_false_iff_not, Bool.or_eq_false_iff, Bool.and_eq_true, Bool.not_eq_true', Bool.not_eq_false', bne_iff_ne, ne_eq, bne_eq_false_iff_eq, beq_iff_eq, beq_eq_false_iff_ne, Bool.and_eq_false_iff, ints_length, u64s_length, words_length, mixW_length, List.length_replicate] at *; omega)) | ((with_reducible apply fnQ_ret_set); rfl; rfl; (first | rfl | exact (by simp only [words_length, mixW_length, List.length_replicate, List.length_set]))))
    | ((with_reducible apply n_idx_ints); rfl; rfl; first | omega | decide | exact pow_lt64 _ | exact div_lt64 (by assumption) _ _ | exact getD_lt (by first | assumption | exact words_lt _ _ | exact mixW_lt or64 | exact mixW_lt and64 | exact mixW_lt minus64) _ | (simp only [decide_eq_true_eq, decide_eq_false_iff_not, Bool.or_eq_false_iff, Bool.and_eq_true, Bool.not_eq_true', Bool.not_eq_false', bne_iff_ne, ne_eq, bne_eq_false_iff_eq, beq_iff_eq, beq_eq_false_iff_ne, Bool.and_eq_false_iff, ints_length, u64s_length, words_length, mixW_length, List.length_replicate] at *; omega))
    | (refine tr_loop_v (α := Int) 4 (fun | i => [(6, some (.int .i64 i)), (9, none), (10, none), (11, none), (12, none), (15, none), (16, none), (17, none), (18, none), (19, none), (20, none), (21, none), (22, none), (23, none), (24, none), (25, none), (26, none), (27, none), (28, none), (29, none), (30, none), (31, none), (32, none), (33, none), (34, none), (13, none), (14, none)]) (fun | i => [some ⟨0, 2, [.agg [.int .i64 0, .lit []]]⟩, none, some ⟨0, 1, u64s (words K (ofV N (l.take i.toNat)))⟩, some ⟨0, 2, [.agg [.int .i64 N, .ref 2 0 0 K]]⟩]) (fun | i => 0 ≤ i ∧ i ≤ l.length) (fun | i => (l.length - i).toNat) 0 (ks := [6, 9, 10, 11, 12, 15, 16, 17, 18, 19, 20, 21, 22, 23, 24, 25, 26, 27, 28, 29, 30, 31, 32, 33, 34, 13, 14]) (fun _ => rfl) (fun _ => rfl) rfl (by omega) ?_ ⟨⟨_, rfl, rfl⟩, trivial⟩ ⟨⟨_, rfl, rfl, rfl, (by first | exact fzP_u64 (ofV_wt (by first | omega | decide | exact pow_lt64 _ | exact div_lt64 (by assumption) _ _ | exact getD_lt (by first | assumption | exact words_lt _ _ | exact mixW_lt or64 | exact mixW_lt and64 | exact mixW_lt minus64) _ | (simp only [decide_eq_true_eq, decide_eq_false_iff_not, Bool.or_eq_false_iff, Bool.and_eq_true, Bool.not_eq_true', Bool.not_eq_false', bne_iff_ne, ne_eq, bne_eq_false_iff_eq, beq_iff_eq, beq_eq_false_iff_ne, Bool.and_eq_false_iff, ints_length, u64s_length, words_length, mixW_length, List.length_replicate] at *; omega)) (by first | omega | decide | exact pow_lt64 _ | exact div_lt64 (by assumption) _ _ | exact getD_lt (by first | assumption | exact words_lt _ _ | exact mixW_lt or64 | exact mixW_lt and64 | exact mixW_lt minus64) _ | (simp only [decide_eq_true_eq, decide_eq_false_iff_not, Bool.or_eq_false_iff, Bool.and_eq_true, Bool.not_eq_true', Bool.not_eq_false', bne_iff_ne, ne_eq, bne_eq_false_iff_eq, beq_iff_eq, beq_eq_false_iff_ne, Bool.and_eq_false_iff, ints_length, u64s_length, words_length, mixW_length, List.length_replicate] at *; omega)) (by first | omega | decide | exact pow_lt64 _ | exact div_lt64 (by assumption) _ _ | exact getD_lt (by first | assumption | exact words_lt _ _ | exact mixW_lt or64 | exact mixW_lt and64 | exact mixW_lt minus64) _ | (simp only [decide_eq_true_eq, decide_eq_false_iff_not, Bool.or_eq_false_iff, Bool.and_eq_true, Bool.not_eq_true', Bool.not_eq_false', bne_iff_ne, ne_eq, bne_eq_false_iff_eq, beq_iff_eq, beq_eq_false_iff_ne, Bool.and_eq_false_iff, ints_length, u64s_length, words_length, mixW_length, List.length_replicate] at *; omega))) | exact fzP_u64 (ofV_f (by first | omega | decide | exact pow_lt64 _ | exact div_lt64 (by assumption) _ _ | exact getD_lt (by first | assumption | exact words_lt _ _ | exact mixW_lt or64 | exact mixW_lt and64 | exact mixW_lt minus64) _ | (simp only [decide_eq_true_eq, decide_eq_false_iff_not, Bool.or_eq_false_iff, Bool.and_eq_true, Bool.not_eq_true', Bool.not_eq_false', bne_iff_ne, ne_eq, bne_eq_false_iff_eq, beq_iff_eq, beq_eq_false_iff_ne, Bool.and_eq_false_iff, ints_length, u64s_length, words_length, mixW_length, List.length_replicate] at *; omega)) (by first | omega | decide | exact pow_lt64 _ | exact div_lt64 (by assumption) _ _ | exact getD_lt (by first | assumption | exact words_lt _ _ | exact mixW_lt or64 | exact mixW_lt and64 | exact mixW_lt minus64) _ | (simp only [decide_eq_true_eq, decide_eq_false_iff_not, Bool.or_eq_false_iff, Bool.and_eq_true, Bool.not_eq_true', Bool.not_eq_false', bne_iff_ne, ne_eq, bne_eq_false_iff_eq, beq_iff_eq, beq_eq_false_iff_ne, Bool.and_eq_false_iff, ints_length, u64s_length, words_length, mixW_length, List.length_replicate] at *; omega)) (by first | omega | decide | exact pow_lt64 _ | exact div_lt64 (by assumption) _ _ | exact getD_lt (by first | assumption | exact words_lt _ _ | exact mixW_lt or64 | exact mixW_lt and64 | exact mixW_lt minus64) _ | (simp only [decide_eq_true_eq, decide_eq_false_iff_not, Bool.or_eq_false_iff, Bool.and_eq_true, Bool.not_eq_true', Bool.not_eq_false', bne_iff_ne, ne_eq, bne_eq_false_iff_eq, beq_iff_eq, beq_eq_false_iff_ne, Bool.and_eq_false_iff, ints_length, u64s_length, words_length, mixW_length, List.length_replicate] at *; omega))) | exact fzP_u64 (words_zero K).symm |  rfl | exact fzP_pure (ints_pure _) | exact fzP_pure (u64s_pure _) | exact fzP_pure (by assumption) | exact fzP_pure (by first | (simp [pureE, pure1, ints]; done) | (simp_all [pe_int, pe_bool, pe_str, pe_sl, pe_agg, p1_int, p1_bool, p1_str, p1_sl]; done)))⟩, ⟨_, rfl, rfl, rfl, (by first | exact fzP_u64 (ofV_wt (by first | omega | decide | exact pow_lt64 _ | exact div_lt64 (by assumption) _ _ | exact getD_lt (by first | assumption | exact words_lt _ _ | exact mixW_lt or64 | exact mixW_lt and64 | exact mixW_lt minus64) _ | (simp only [decide_eq_true_eq, decide_eq_false_iff_not, Bool.or_eq_false_iff, Bool.and_eq_true, Bool.not_eq_true', Bool.not_eq_false', bne_iff_ne, ne_eq, bne_eq_false_iff_eq, beq_iff_eq, beq_eq_false_iff_ne, Bool.and_eq_false_iff, ints_length, u64s_length, words_length, mixW_length, List.length_replicate] at *; omega)) (by first | omega | decide | exact pow_lt64 _ | exact div_lt64 (by assumption) _ _ | exact getD_lt (by first | assumption | exact words_lt _ _ | exact mixW_lt or64 | exact mixW_lt and64 | exact mixW_lt minus64) _ | (simp only [decide_eq_true_eq, decide_eq_false_iff_not, Bool.or_eq_false_iff, Bool.and_eq_true, Bool.not_eq_true', Bool.not_eq_false', bne_iff_ne, ne_eq, bne_eq_false_iff_eq, beq_iff_eq, beq_eq_false_iff_ne, Bool.and_eq_false_iff, ints_length, u64s_length, words_length, mixW_length, List.length_replicate] at *; omega)) (by first | omega | decide | exact pow_lt64 _ | exact div_lt64 (by assumption) _ _ | exact getD_lt (by first | assumption | exact words_lt _ _ | exact mixW_lt or64 | exact mixW_lt and64 | exact mixW_lt minus64) _ | (simp only [decide_eq_true_eq, decide_eq_false_iff_not, Bool.or_eq_false_iff, Bool.and_eq_true, Bool.not_eq_true', Bool.not_eq_false', bne_iff_ne, ne_eq, bne_eq_false_iff_eq, beq_iff_eq, beq_eq_false_iff_ne, Bool.and_eq_false_iff, ints_length, u64s_length, words_length, mixW_length, List.length_replicate] at *; omega))) | exact fzP_u64 (ofV_f (by first | omega | decide | exact pow_lt64 _ | exact div_lt64 (by assumption) _ _ | exact getD_lt (by first | assumption | exact words_lt _ _ | exact mixW_lt or64 | exact mixW_lt and64 | exact mixW_lt minus64) _ | (simp only [decide_eq_true_eq, decide_eq_false_iff_not, Bool.or_eq_false_iff, Bool.and_eq_true, Bool.not_eq_true', Bool.not_eq_false', bne_iff_ne, ne_eq, bne_eq_false_iff_eq, beq_iff_eq, beq_eq_false_iff_ne, Bool.and_eq_false_iff, ints_length, u64s_length, words_length, mixW_length, List.length_replicate] at *; omega)) (by first | omega | decide | exact pow_lt64 _ | exact div_lt64 (by assumption) _ _ | exact getD_lt (by first | assumption | exact words_lt _ _ | exact mixW_lt or64 | exact mixW_lt and64 | exact mixW_lt minus64) _ | (simp only [decide_eq_true_eq, decide_eq_false_iff_not, Bool.or_eq_false_iff, Bool.and_eq_true, Bool.not_eq_true', Bool.not_eq_false', bne_iff_ne, ne_eq, bne_eq_false_iff_eq, beq_iff_eq, beq_eq_false_iff_ne, Bool.and_eq_false_iff, ints_length, u64s_length, words_length, mixW_length, List.length_replicate] at *; omega)) (by first | omega | decide | exact pow_lt64 _ | exact div_lt64 (by assumption) _ _ | exact getD_lt (by first | assumption | exact words_lt _ _ | exact mixW_lt or64 | exact mixW_lt and64 | exact mixW_lt minus64) _ | (simp only [decide_eq_true_eq, decide_eq_false_iff_not, Bool.or_eq_false_iff, Bool.and_eq_true, Bool.not_eq_true', Bool.not_eq_false', bne_iff_ne, ne_eq, bne_eq_false_iff_eq, beq_iff_eq, beq_eq_false_iff_ne, Bool.and_eq_false_iff, ints_length, u64s_length, words_length, mixW_length, List.length_replicate] at *; omega))) | exact fzP_u64 (words_zero K).symm |  rfl | exact fzP_pure (ints_pure _) | exact fzP_pure (u64s_pure _) | exact fzP_pure (by assumption) | exact fzP_pure (by first | (simp [pureE, pure1, ints]; done) | (simp_all [pe_int, pe_bool, pe_str, pe_sl, pe_agg, p1_int, p1_bool, p1_str, p1_sl]; done)))⟩, ⟨_, rfl, rfl, rfl, (by first | exact fzP_u64 (ofV_wt (by first | omega | decide | exact pow_lt64 _ | exact div_lt64 (by assumption) _ _ | exact getD_lt (by first | assumption | exact words_lt _ _ | exact mixW_lt or64 | exact mixW_lt and64 | exact mixW_lt minus64) _ | (simp only [decide_eq_true_eq, decide_eq_false_iff_not, Bool.or_eq_false_iff, Bool.and_eq_true, Bool.not_eq_true', Bool.not_eq_false', bne_iff_ne, ne_eq, bne_eq_false_iff_eq, beq_iff_eq, beq_eq_false_iff_ne, Bool.and_eq_false_iff, ints_length, u64s_length, words_length, mixW_length, List.length_replicate] at *; omega)) (by first | omega | decide | exact pow_lt64 _ | exact div_lt64 (by assumption) _ _ | exact getD_lt (by first | assumption | exact words_lt _ _ | exact mixW_lt or64 | exact mixW_lt and64 | exact mixW_lt minus64) _ | (simp only [decide_eq_true_eq, decide_eq_false_iff_not, Bool.or_eq_false_iff, Bool.and_eq_true, Bool.not_eq_true', Bool.not_eq_false', bne_iff_ne, ne_eq, bne_eq_false_iff_eq, beq_iff_eq, beq_eq_false_iff_ne, Bool.and_eq_false_iff, ints_length, u64s_length, words_length, mixW_length, List.length_replicate] at *; omega)) (by first | omega | decide | exact pow_lt64 _ | exact div_lt64 (by assumption) _ _ | exact getD_lt (by first | assumption | exact words_lt _ _ | exact mixW_lt or64 | exact mixW_lt and64 | exact mixW_lt minus64) _ | (simp only [decide_eq_true_eq, decide_eq_false_iff_not, Bool.or_eq_false_iff, Bool.and_eq_true, Bool.not_eq_true', Bool.not_eq_false', bne_iff_ne, ne_eq, bne_eq_false_iff_eq, beq_iff_eq, beq_eq_false_iff_ne, Bool.and_eq_false_iff, ints_length, u64s_length, words_length, mixW_length, List.length_replicate] at *; omega))) | exact fzP_u64 (ofV_f (by first | omega | decide | exact pow_lt64 _ | exact div_lt64 (by assumption) _ _ | exact getD_lt (by first | assumption | exact words_lt _ _ | exact mixW_lt or64 | exact mixW_lt and64 | exact mixW_lt minus64) _ | (simp only [decide_eq_true_eq, decide_eq_false_iff_not, Bool.or_eq_false_iff, Bool.and_eq_true, Bool.not_eq_true', Bool.not_eq_false', bne_iff_ne, ne_eq, bne_eq_false_iff_eq, beq_iff_eq, beq_eq_false_iff_ne, Bool.and_eq_false_iff, ints_length, u64s_length, words_length, mixW_length, List.length_replicate] at *; omega)) (by first | omega | decide | exact pow_lt64 _ | exact div_lt64 (by assumption) _ _ | exact getD_lt (by first | assumption | exact words_lt _ _ | exact mixW_lt or64 | exact mixW_lt and64 | exact mixW_lt minus64) _ | (simp only [decide_eq_true_eq, decide_eq_false_iff_not, Bool.or_eq_false_iff, Bool.and_eq_true, Bool.not_eq_true', Bool.not_eq_false', bne_iff_ne, ne_eq, bne_eq_false_iff_eq, beq_iff_eq, beq_eq_false_iff_ne, Bool.and_eq_false_iff, ints_length, u64s_length, words_length, mixW_length, List.length_replicate] at *; omega)) (by first | omega | decide | exact pow_lt64 _ | exact div_lt64 (by assumption) _ _ | exact getD_lt (by first | assumption | exact words_lt _ _ | exact mixW_lt or64 | exact mixW_lt and64 | exact mixW_lt minus64) _ | (simp only [decide_eq_true_eq, decide_eq_false_iff_not, Bool.or_eq_false_iff, Bool.and_eq_true, Bool.not_eq_true', Bool.not_eq_false', bne_iff_ne, ne_eq, bne_eq_false_iff_eq, beq_iff_eq, beq_eq_false_iff_ne, Bool.and_eq_false_iff, ints_length, u64s_length, words_length, mixW_length, List.length_replicate] at *; omega))) | exact fzP_u64 (words_zero K).symm |  rfl | exact fzP_pure (ints_pure _) | exact fzP_pure (u64s_pure _) | exact fzP_pure (by assumption) | exact fzP_pure (by first | (simp [pureE, pure1, ints]; done) | (simp_all [pe_int, pe_bool, pe_str, pe_sl, pe_agg, p1_int, p1_bool, p1_str, p1_sl]; done)))⟩, trivial⟩ ?_; rotate_left; rintro i hx; try dsimp only at hx)
    | (refine loopV_normal _ ?_ ⟨⟨_, rfl, rfl⟩, trivial⟩ ⟨⟨_, rfl, rfl, rfl, (by first | exact fzP_u64 (ofV_wt (by first | omega | decide | exact pow_lt64 _ | exact div_lt64 (by assumption) _ _ | exact getD_lt (by first | assumption | exact words_lt _ _ | exact mixW_lt or64 | exact mixW_lt and64 | exact mixW_lt minus64) _ | (simp only [decide_eq_true_eq, decide_eq_false_iff_not, Bool.or_eq_false_iff, Bool.and_eq_true, Bool.not_eq_true', Bool.not_eq_false', bne_iff_ne, ne_eq, bne_eq_false_iff_eq, beq_iff_eq, beq_eq_false_iff_ne, Bool.and_eq_false_iff, ints_length, u64s_length, words_length, mixW_length, List.length_replicate] at *; omega)) (by first | omega | decide | exact pow_lt64 _ | exact div_lt64 (by assumption) _ _ | exact getD_lt (by first | assumption | exact words_lt _ _ | exact mixW_lt or64 | exact mixW_lt and64 | exact mixW_lt minus64) _ | (simp only [decide_eq_true_eq, decide_eq_false_iff_not, Bool.or_eq_false_iff, Bool.and_eq_true, Bool.not_eq_true', Bool.not_eq_false', bne_iff_ne, ne_eq, bne_eq_false_iff_eq, beq_iff_eq, beq_eq_false_iff_ne, Bool.and_eq_false_iff, ints_length, u64s_length, words_length, mixW_length, List.length_replicate] at *; omega)) (by first | omega | decide | exact pow_lt64 _ | exact div_lt64 (by assumption) _ _ | exact getD_lt (by first | assumption | exact words_lt _ _ | exact mixW_lt or64 | exact mixW_lt and64 | exact mixW_lt minus64) _ | (simp only [decide_eq_true_eq, decide_eq_false_iff_not, Bool.or_eq_false_iff, Bool.and_eq_true, Bool.not_eq_true', Bool.not_eq_false', bne_iff_ne, ne_eq, bne_eq_false_iff_eq, beq_iff_eq, beq_eq_false_iff_ne, Bool.and_eq_false_iff, ints_length, u64s_length, words_length, mixW_length, List.length_replicate] at *; omega))) | exact fzP_u64 (ofV_f (by first | omega | decide | exact pow_lt64 _ | exact div_lt64 (by assumption) _ _ | exact getD_lt (by first | assumption | exact words_lt _ _ | exact mixW_lt or64 | exact mixW_lt and64 | exact mixW_lt minus64) _ | (simp only [decide_eq_true_eq, decide_eq_false_iff_not, Bool.or_eq_false_iff, Bool.and_eq_true, Bool.not_eq_true', Bool.not_eq_false', bne_iff_ne, ne_eq, bne_eq_false_iff_eq, beq_iff_eq, beq_eq_false_iff_ne, Bool.and_eq_false_iff, ints_length, u64s_length, words_length, mixW_length, List.length_replicate] at *; omega)) (by first | omega | decide | exact pow_lt64 _ | exact div_lt64 (by assumption) _ _ | exact getD_lt (by first | assumption | exact words_lt _ _ | exact mixW_lt or64 | exact mixW_lt and64 | exact mixW_lt minus64) _ | (simp only [decide_eq_true_eq, decide_eq_false_iff_not, Bool.or_eq_false_iff, Bool.and_eq_true, Bool.not_eq_true', Bool.not_eq_false', bne_iff_ne, ne_eq, bne_eq_false_iff_eq, beq_iff_eq, beq_eq_false_iff_ne, Bool.and_eq_false_iff, ints_length, u64s_length, words_length, mixW_length, List.length_replicate] at *; omega)) (by first | omega | decide | exact pow_lt64 _ | exact div_lt64 (by assumption) _ _ | exact getD_lt (by first | assumption | exact words_lt _ _ | exact mixW_lt or64 | exact mixW_lt and64 | exact mixW_lt minus64) _ | (simp only [decide_eq_true_eq, decide_eq_false_iff_not, Bool.or_eq_false_iff, Bool.and_eq_true, Bool.not_eq_true', Bool.not_eq_false', bne_iff_ne, ne_eq, bne_eq_false_iff_eq, beq_iff_eq, beq_eq_false_iff_ne, Bool.and_eq_false_iff, ints_length, u64s_length, words_length, mixW_length, List.length_replicate] at *; omega))) | exact fzP_u64 (words_zero K).symm |  rfl | exact fzP_pure (ints_pure _) | exact fzP_pure (u64s_pure _) | exact fzP_pure (by assumption) | exact fzP_pure (by first | (simp [pureE, pure1, ints]; done) | (simp_all [pe_int, pe_bool, pe_str, pe_sl, pe_agg, p1_int, p1_bool, p1_str, p1_sl]; done)))⟩, ⟨_, rfl, rfl, rfl, (by first | exact fzP_u64 (ofV_wt (by first | omega | decide | exact pow_lt64 _ | exact div_lt64 (by assumption) _ _ | exact getD_lt (by first | assumption | exact words_lt _ _ | exact mixW_lt or64 | exact mixW_lt and64 | exact mixW_lt minus64) _ | (simp only [decide_eq_true_eq, decide_eq_false_iff_not, Bool.or_eq_false_iff, Bool.and_eq_true, Bool.not_eq_true', Bool.not_eq_false', bne_iff_ne, ne_eq, bne_eq_false_iff_eq, beq_iff_eq, beq_eq_false_iff_ne, Bool.and_eq_false_iff, ints_length, u64s_length, words_length, mixW_length, List.length_replicate] at *; omega)) (by first | omega | decide | exact pow_lt64 _ | exact div_lt64 (by assumption) _ _ | exact getD_lt (by first | assumption | exact words_lt _ _ | exact mixW_lt or64 | exact mixW_lt and64 | exact mixW_lt minus64) _ | (simp only [decide_eq_true_eq, decide_eq_false_iff_not, Bool.or_eq_false_iff, Bool.and_eq_true, Bool.not_eq_true', Bool.not_eq_false', bne_iff_ne, ne_eq, bne_eq_false_iff_eq, beq_iff_eq, beq_eq_false_iff_ne, Bool.and_eq_false_iff, ints_length, u64s_length, words_length, mixW_length, List.length_replicate] at *; omega)) (by first | omega | decide | exact pow_lt64 _ | exact div_lt64 (by assumption) _ _ | exact getD_lt (by first | assumption | exact words_lt _ _ | exact mixW_lt or64 | exact mixW_lt and64 | exact mixW_lt minus64) _ | (simp only [decide_eq_true_eq, decide_eq_false_iff_not, Bool.or_eq_false_iff, Bool.and_eq_true, Bool.not_eq_true', Bool.not_eq_false', bne_iff_ne, ne_eq, bne_eq_false_iff_eq, beq_iff_eq, beq_eq_false_iff_ne, Bool.and_eq_false_iff, ints_length, u64s_length, words_length, mixW_length, List.length_replicate] at *; omega))) | exact fzP_u64 (ofV_f (by first | omega | decide | exact pow_lt64 _ | exact div_lt64 (by assumption) _ _ | exact getD_lt (by first | assumption | exact words_lt _ _ | exact mixW_lt or64 | exact mixW_lt and64 | exact mixW_lt minus64) _ | (simp only [decide_eq_true_eq, decide_eq_false_iff_not, Bool.or_eq_false_iff, Bool.and_eq_true, Bool.not_eq_true', Bool.not_eq_false', bne_iff_ne, ne_eq, bne_eq_false_iff_eq, beq_iff_eq, beq_eq_false_iff_ne, Bool.and_eq_false_iff, ints_length, u64s_length, words_length, mixW_length, List.length_replicate] at *; omega)) (by first | omega | decide | exact pow_lt64 _ | exact div_lt64 (by assumption) _ _ | exact getD_lt (by first | assumption | exact words_lt _ _ | exact mixW_lt or64 | exact mixW_lt and64 | exact mixW_lt minus64) _ | (simp only [decide_eq_true_eq, decide_eq_false_iff_not, Bool.or_eq_false_iff, Bool.and_eq_true, Bool.not_eq_true', Bool.not_eq_false', bne_iff_ne, ne_eq, bne_eq_false_iff_eq, beq_iff_eq, beq_eq_false_iff_ne, Bool.and_eq_false_iff, ints_length, u64s_length, words_length, mixW_length, List.length_replicate] at *; omega)) (by first | omega | decide | exact pow_lt64 _ | exact div_lt64 (by assumption) _ _ | exact getD_lt (by first | assumption | exact words_lt _ _ | exact mixW_lt or64 | exact mixW_lt and64 | exact mixW_lt minus64) _ | (simp only [decide_eq_true_eq, decide_eq_false_iff_not, Bool.or_eq_false_iff, Bool.and_eq_true, Bool.not_eq_true', Bool.not_eq_false', bne_iff_ne, ne_eq, bne_eq_false_iff_eq, beq_iff_eq, beq_eq_false_iff_ne, Bool.and_eq_false_iff, ints_length, u64s_length, words_length, mixW_length, List.length_replicate] at *; omega))) | exact fzP_u64 (words_zero K).symm |  rfl | exact fzP_pure (ints_pure _) | exact fzP_pure (u64s_pure _) | exact fzP_pure (by assumption) | exact fzP_pure (by first | (simp [pureE, pure1, ints]; done) | (simp_all [pe_int, pe_bool, pe_str, pe_sl, pe_agg, p1_int, p1_bool, p1_str, p1_sl]; done)))⟩, ⟨_, rfl, rfl, rfl, (by first | exact fzP_u64 (ofV_wt (by first | omega | decide | exact pow_lt64 _ | exact div_lt64 (by assumption) _ _ | exact getD_lt (by first | assumption | exact words_lt _ _ | exact mixW_lt or64 | exact mixW_lt and64 | exact mixW_lt minus64) _ | (simp only [decide_eq_true_eq, decide_eq_false_iff_not, Bool.or_eq_false_iff, Bool.and_eq_true, Bool.not_eq_true', Bool.not_eq_false', bne_iff_ne, ne_eq, bne_eq_false_iff_eq, beq_iff_eq, beq_eq_false_iff_ne, Bool.and_eq_false_iff, ints_length, u64s_length, words_length, mixW_length, List.length_replicate] at *; omega)) (by first | omega | decide | exact pow_lt64 _ | exact div_lt64 (by assumption) _ _ | exact getD_lt (by first | assumption | exact words_lt _ _ | exact mixW_lt or64 | exact mixW_lt and64 | exact mixW_lt minus64) _ | (simp only [decide_eq_true_eq, decide_eq_false_iff_not, Bool.or_eq_false_iff, Bool.and_eq_true, Bool.not_eq_true', Bool.not_eq_false', bne_iff_ne, ne_eq, bne_eq_false_iff_eq, beq_iff_eq, beq_eq_false_iff_ne, Bool.and_eq_false_iff, ints_length, u64s_length, words_length, mixW_length, List.length_replicate] at *; omega)) (by first | omega | decide | exact pow_lt64 _ | exact div_lt64 (by assumption) _ _ | exact getD_lt (by first | assumption | exact words_lt _ _ | exact mixW_lt or64 | exact mixW_lt and64 | exact mixW_lt minus64) _ | (simp only [decide_eq_true_eq, decide_eq_false_iff_not, Bool.or_eq_false_iff, Bool.and_eq_true, Bool.not_eq_true', Bool.not_eq_false', bne_iff_ne, ne_eq, bne_eq_false_iff_eq, beq_iff_eq, beq_eq_false_iff_ne, Bool.and_eq_false_iff, ints_length, u64s_length, words_length, mixW_length, List.length_replicate] at *; omega))) | exact fzP_u64 (ofV_f (by first | omega | decide | exact pow_lt64 _ | exact div_lt64 (by assumption) _ _ | exact getD_lt (by first | assumption | exact words_lt _ _ | exact mixW_lt or64 | exact mixW_lt and64 | exact mixW_lt minus64) _ | (simp only [decide_eq_true_eq, decide_eq_false_iff_not, Bool.or_eq_false_iff, Bool.and_eq_true, Bool.not_eq_true', Bool.not_eq_false', bne_iff_ne, ne_eq, bne_eq_false_iff_eq, beq_iff_eq, beq_eq_false_iff_ne, Bool.and_eq_false_iff, ints_length, u64s_length, words_length, mixW_length, List.length_replicate] at *; omega)) (by first | omega | decide | exact pow_lt64 _ | exact div_lt64 (by assumption) _ _ | exact getD_lt (by first | assumption | exact words_lt _ _ | exact mixW_lt or64 | exact mixW_lt and64 | exact mixW_lt minus64) _ | (simp only [decide_eq_true_eq, decide_eq_false_iff_not, Bool.or_eq_false_iff, Bool.and_eq_true, Bool.not_eq_true', Bool.not_eq_false', bne_iff_ne, ne_eq, bne_eq_false_iff_eq, beq_iff_eq, beq_eq_false_iff_ne, Bool.and_eq_false_iff, ints_length, u64s_length, words_length, mixW_length, List.length_replicate] at *; omega)) (by first | omega | decide | exact pow_lt64 _ | exact div_lt64 (by assumption) _ _ | exact getD_lt (by first | assumption | exact words_lt _ _ | exact mixW_lt or64 | exact mixW_lt and64 | exact mixW_lt minus64) _ | (simp only [decide_eq_true_eq, decide_eq_false_iff_not, Bool.or_eq_false_iff, Bool.and_eq_true, Bool.not_eq_true', Bool.not_eq_false', bne_iff_ne, ne_eq, bne_eq_false_iff_eq, beq_iff_eq, beq_eq_false_iff_ne, Bool.and_eq_false_iff, ints_length, u64s_length, words_length, mixW_length, List.length_replicate] at *; omega))) | exact fzP_u64 (words_zero K).symm |  rfl | exact fzP_pure (ints_pure _) | exact fzP_pure (u64s_pure _) | exact fzP_pure (by assumption) | exact fzP_pure (by first | (simp [pureE, pure1, ints]; done) | (simp_all [pe_int, pe_bool, pe_str, pe_sl, pe_agg, p1_int, p1_bool, p1_str, p1_sl]; done)))⟩, trivial⟩ ?_ ?_; repeat (first | exact only_refl | refine only_put rfl ?_ | refine only_less rfl ?_ | refine only_ov rfl ?_))
    | ((with_reducible apply n_val); rfl; rfl)
    | ((with_reducible apply n_new); rfl; (first | (simp only [hn0, hn1, hn2, hn3, hn4, hn5, List.length_cons, List.length_nil, Nat.reduceAdd, Nat.zero_add]; done) | (simp only [hn0, hn1, hn2, hn3, hn4, hn5, List.length_cons, List.length_nil, Nat.reduceAdd, Nat.zero_add]; rfl) | rfl); rfl)
    | ((with_reducible apply n_store); rfl; rfl; rfl; rfl; rfl)
    | ((with_reducible apply n_freshL ); (first | (simp only [hn0, hn1, hn2, hn3, hn4, hn5, List.length_cons, List.length_nil, Nat.reduceAdd, Nat.zero_add]; done) | (simp only [hn0, hn1, hn2, hn3, hn4, hn5, List.length_cons, List.length_nil, Nat.reduceAdd, Nat.zero_add]; rfl) | rfl); rfl; rfl; exact hN; rfl; (repeat (first | exact ShL.nil | apply ShL.none | (apply ShL.some; (first | rfl | exact shiftPs_pure (u64s_pure _) | exact shiftPs_pure (ints_pure _))))))
    | ((with_reducible apply n_spec (f := 122)); rfl; exact h_ref_put N _ K _ (by first | omega | decide | exact pow_lt64 _ | exact div_lt64 (by assumption) _ _ | exact getD_lt (by first | assumption | exact words_lt _ _ | exact mixW_lt or64 | exact mixW_lt and64 | exact mixW_lt minus64) _ | (simp only [decide_eq_true_eq, decide_eq_false_iff_not, Bool.or_eq_false_iff, Bool.and_eq_true, Bool.not_eq_true', Bool.not_eq_false', bne_iff_ne, ne_eq, bne_eq_false_iff_eq, beq_iff_eq, beq_eq_false_iff_ne, Bool.and_eq_false_iff, ints_length, u64s_length, words_length, mixW_length, List.length_replicate] at *; omega)) (by first | omega | decide | exact pow_lt64 _ | exact div_lt64 (by assumption) _ _ | exact getD_lt (by first | assumption | exact words_lt _ _ | exact mixW_lt or64 | exact mixW_lt and64 | exact mixW_lt minus64) _ | (simp only [decide_eq_true_eq, decide_eq_false_iff_not, Bool.or_eq_false_iff, Bool.and_eq_true, Bool.not_eq_true', Bool.not_eq_false', bne_iff_ne, ne_eq, bne_eq_false_iff_eq, beq_iff_eq, beq_eq_false_iff_ne, Bool.and_eq_false_iff, ints_length, u64s_length, words_length, mixW_length, List.length_replicate] at *; omega)) (by first | omega | decide | exact pow_lt64 _ | exact div_lt64 (by assumption) _ _ | exact getD_lt (by first | assumption | exact words_lt _ _ | exact mixW_lt or64 | exact mixW_lt and64 | exact mixW_lt minus64) _ | (simp only [decide_eq_true_eq, decide_eq_false_iff_not, Bool.or_eq_false_iff, Bool.and_eq_true, Bool.not_eq_true', Bool.not_eq_false', bne_iff_ne, ne_eq, bne_eq_false_iff_eq, beq_iff_eq, beq_eq_false_iff_ne, Bool.and_eq_false_iff, ints_length, u64s_length, words_length, mixW_length, List.length_replicate] at *; omega)); exact Nat.le_refl _)
    | (with_reducible refine condT_split (fun h => ?_) (fun h => ?_))
    | ((with_reducible apply fnQ_told_ret); rfl)
    | ((with_reducible apply fnQ_ret_soft); rfl; rfl)
  all_goals (try dsimp only at *)
  all_goals (try simp only [decide_eq_true_eq, decide_eq_false_iff_not, ints_length] at *)
  · omega
  · omega
  · omega
  · omega
  · subst hK
    rw [take_all (by omega)]
  · omega
end

end Go.Vm
