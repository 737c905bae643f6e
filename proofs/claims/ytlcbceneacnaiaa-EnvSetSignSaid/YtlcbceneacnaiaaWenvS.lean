/- Laid. -/
import Derived.Test.YtlcbceneacnaiaaCenvS
import Derived.Test.YtlcbceneacnaiaaWenvD
import Derived.Test.YtlcbceneacnaiaaLEnvS
/- Walks. -/
set_option maxRecDepth 100000
set_option linter.unusedSimpArgs false
set_option linter.unusedVariables false
namespace Go.Vm
open Go

section
variable {gl : Nat → Option PV}
set_option maxHeartbeats 4000000
theorem p_env_signs : Pure Go.Proofs.Try.prog gl 47 [] (.agg [.fn 39 [], .fn 68 []]) := by
  refine Pure.fn hmix b47 ?_
  repeat' first
    | with_reducible refine tr_seq ?_
    | ((with_reducible refine tr_region_f ?_ ?_); kernel_rfl)
    | with_reducible refine n_nil ?_
    | with_reducible refine seqQ_normal ?_
    | with_reducible refine seqQ_ret ?_
    | with_reducible refine blkQ_ret ?_
    | with_reducible refine tr_ret ?_
    | ((with_reducible apply n_val); rfl; rfl)
    | ((with_reducible apply n_new); rfl; (first | (simp only [hn0, hn1, hn2, hn3, hn4, hn5, List.length_cons, List.length_nil, Nat.reduceAdd, Nat.zero_add]; done) | (simp only [hn0, hn1, hn2, hn3, hn4, hn5, List.length_cons, List.length_nil, Nat.reduceAdd, Nat.zero_add]; rfl) | rfl); rfl)
    | ((with_reducible apply n_store); rfl; rfl; rfl; rfl; rfl)
    | ((with_reducible apply fnQ_told_ret); rfl)
    | ((with_reducible apply fnQ_ret_soft); rfl; rfl)
  rfl
theorem p_sign_join0 (c : I64) : Pure Go.Proofs.Try.prog gl 39 [pi c, .int .i64 0] (ps (s8 c)) := by
  have := p_sign_Join (gl := gl) c.1 0 c.2 zi.2
  rwa [sJoin_0] at this
theorem p_envs_sane (c : I64) : Pure Go.Proofs.Try.prog gl 72 [(.agg [.fn 39 [], .fn 68 []]), pi c] (ps (s8 c)) := by
  refine Pure.fn hmix b72 ?_
  repeat' first
    | with_reducible refine tr_seq ?_
    | ((with_reducible refine tr_region_f ?_ ?_); kernel_rfl)
    | with_reducible refine n_nil ?_
    | with_reducible refine seqQ_normal ?_
    | with_reducible refine seqQ_ret ?_
    | with_reducible refine blkQ_ret ?_
    | with_reducible refine tr_ret ?_
    | ((with_reducible apply n_callv); rfl; rfl; rfl; exact p_sign_join0 ..)
    | ((with_reducible apply n_val); rfl; rfl)
    | ((with_reducible apply n_new); rfl; (first | (simp only [hn0, hn1, hn2, hn3, hn4, hn5, List.length_cons, List.length_nil, Nat.reduceAdd, Nat.zero_add]; done) | (simp only [hn0, hn1, hn2, hn3, hn4, hn5, List.length_cons, List.length_nil, Nat.reduceAdd, Nat.zero_add]; rfl) | rfl); rfl)
    | ((with_reducible apply fnQ_told_ret); rfl)
    | ((with_reducible apply fnQ_ret_soft); rfl; rfl)
  rfl
theorem p_envs_get (on : Bool) (l : List I64) (i : Int) : Pure Go.Proofs.Try.prog gl 56 [(.agg [.fn 39 [], .fn 68 []]), eIn pi on l, .int .i64 i] (ps (eGet z8 (eAbs s8 on l) i)) := by
  rw [eAbs_get (g := s8) (a := zi) s8_zero]
  refine Pure.fn hmix b56 ?_
  repeat' first
    | with_reducible refine tr_seq ?_
    | ((with_reducible refine tr_region_f ?_ ?_); kernel_rfl)
    | ((with_reducible refine tr_region_t ?_ ?_ ?_); kernel_rfl; kernel_rfl)
    | with_reducible refine n_nil ?_
    | exact ⟨rfl, rfl⟩
    | with_reducible refine seqQ_normal ?_
    | with_reducible refine seqQ_ret ?_
    | with_reducible refine blkQ_ret ?_
    | with_reducible refine tr_skip ?_
    | with_reducible refine tr_ret ?_
    | ((with_reducible apply tr_cond_e); rfl)
    | with_reducible refine condT_t ?_
    | with_reducible refine condT_f ?_
    | ((with_reducible apply n_and); rfl; rfl; intro h)
    | ((with_reducible apply n_or); rfl; rfl; intro h)
    | (first | ((with_reducible apply n_bin); rfl; rfl; focus ((with_reducible (first | apply b_add | apply b_sub)) <;> first | omega | (simp only [decide_eq_true_eq, decide_eq_false_iff_not, Bool.or_eq_false_iff, Bool.not_eq_true', Bool.not_eq_false', Bool.not_true, Bool.not_false, ints_length, List.length_map, tab_length] at *; omega))) | ((with_reducible apply n_max); rfl; rfl) | ((with_reducible apply n_min); rfl; rfl))
    | ((with_reducible apply n_idx_vals zi); rfl; rfl; exact (fun _ => rfl); (first | omega | (simp only [decide_eq_true_eq, decide_eq_false_iff_not, Bool.or_eq_false_iff, Bool.not_eq_true', Bool.not_eq_false', Bool.not_true, Bool.not_false, ints_length, List.length_map, tab_length] at *; omega)))
    | ((with_reducible apply n_val); rfl; rfl)
    | ((with_reducible apply n_new); rfl; (first | (simp only [hn0, hn1, hn2, hn3, hn4, hn5, List.length_cons, List.length_nil, Nat.reduceAdd, Nat.zero_add]; done) | (simp only [hn0, hn1, hn2, hn3, hn4, hn5, List.length_cons, List.length_nil, Nat.reduceAdd, Nat.zero_add]; rfl) | rfl); rfl)
    | ((with_reducible apply n_call (f := 72)); rfl; rfl; exact p_envs_sane ..)
    | (with_reducible refine condT_split (fun h => ?_) (fun h => ?_))
    | ((with_reducible apply fnQ_told_ret); rfl)
    | ((with_reducible apply fnQ_ret_soft); rfl; rfl)
  all_goals (simp only [Bool.or_eq_true, Bool.not_eq_true', decide_eq_true_eq, Bool.or_eq_false_iff, Bool.not_eq_false', decide_eq_false_iff_not, List.length_map] at *)
  · rw [if_neg (by rintro ⟨h1, h2, h3⟩; rcases h with (h | h) | h; (simp [h] at h1); omega; omega)]; rfl
  · rw [if_pos (by refine ⟨h.1.1, ?_, ?_⟩ <;> omega)]
    all_goals rfl
theorem p_sign_JoinV (v w : S8) : Pure Go.Proofs.Try.prog gl 39 [ps v, ps w] (ps (v.join w)) := p_sign_Join v.1 w.1 v.i64 w.i64
theorem p_sign_LeqV (v w : S8) : Pure Go.Proofs.Try.prog gl 68 [ps v, ps w] (.bool (v.leq w)) := p_sign_Leq v.1 w.1 v.i64 w.i64
theorem eGetS_on {l : List I64} (k : Nat) : eGet z8 (eAbs s8 true l) (k : Int) = (l.map s8).getD k z8 := by simp [eGet, eAbs, eV]
theorem f_envs_own (l : List I64) (n : Int) (N : Nat) (hN : max n (l.length : Nat) = (N : Nat)) (hb : N ≤ 1000) (R : List S8) (hR : R = tab N fun k => (l.map s8).getD k z8) : Fresh Go.Proofs.Try.prog gl 69 [(.agg [.fn 39 [], .fn 68 []]), eIn pi true l, .int .i64 n] (.agg [.bool true, .ref 3 0 0 N]) (Hp.ofL [none, none, none, some ⟨0, 1, R.map ps⟩]) := by
  have hRl : R.length = N := by rw [hR]; exact tab_length
  have hO : R.length = (List.replicate N z8).length := by rw [hRl]; simp
  have hg : ∀ k : Nat, k < N → ps (eGet z8 (eAbs s8 true l) (k : Int)) = ps (R.getD k z8) := fun k hk => by rw [eGetS_on, hR, tab_getD hk]
  refine Fresh.fnL hmix b69 ?_
  repeat' first
    | with_reducible refine tr_seq ?_
    | ((with_reducible refine tr_region_f ?_ ?_); kernel_rfl)
    | ((with_reducible refine tr_region_t ?_ ?_ ?_); kernel_rfl; kernel_rfl)
    | with_reducible refine n_nil ?_
    | with_reducible refine seqQ_normal ?_
    | with_reducible refine seqQ_exit ?_
    | with_reducible refine seqQ_ret ?_
    | with_reducible refine blkQ_normal ?_
    | with_reducible refine blkQ_exit ?_
    | with_reducible refine blkQ_ret ?_
    | ((with_reducible refine blkQ_exit_ne ?_ ?_); rfl)
    | with_reducible refine tr_block ?_
    | with_reducible refine tr_skip ?_
    | with_reducible refine tr_exit ?_
    | with_reducible refine tr_ret ?_
    | ((with_reducible apply tr_cond_e); rfl)
    | with_reducible refine condT_t ?_
    | with_reducible refine condT_f ?_
    | ((with_reducible refine condT_T ?_ ?_); decide +kernel)
    | ((with_reducible refine condT_F ?_ ?_); decide +kernel)
    | ((with_reducible apply n_andF); rfl; rfl; decide +kernel)
    | ((with_reducible apply n_orT); rfl; rfl; decide +kernel)
    | with_reducible refine loopV_exit ?_
    | with_reducible refine loopV_ret ?_
    | with_reducible refine unrQ_normal ?_
    | with_reducible refine unrQ_exit ?_
    | with_reducible refine unrQ_ret ?_
    | ((with_reducible apply n_max_to (c := (N : Int))); rfl; rfl; (rw [List.length_map]; exact hN))
    | ((with_reducible apply n_mk_vals (f := ps) z8); rfl; rfl; rfl; rfl; omega)
    | (first | ((with_reducible apply n_bin); rfl; rfl; focus ((with_reducible (first | apply b_add | apply b_sub)) <;> first | omega | (simp only [decide_eq_true_eq, decide_eq_false_iff_not, Bool.or_eq_false_iff, Bool.not_eq_true', Bool.not_eq_false', Bool.not_true, Bool.not_false, ints_length, List.length_map, tab_length] at *; omega))) | ((with_reducible apply n_max); rfl; rfl) | ((with_reducible apply n_min); rfl; rfl))
    | ((with_reducible apply n_idx_own); rfl; rfl; rfl; (first | omega | (simp only [decide_eq_true_eq, decide_eq_false_iff_not, Bool.or_eq_false_iff, Bool.not_eq_true', Bool.not_eq_false', Bool.not_true, Bool.not_false, ints_length, List.length_map, tab_length] at *; omega)))
    | ((with_reducible apply n_store_vals (f := ps) (R.getD k z8)); rfl; rfl; rfl; exact hg _ (by first | omega | (simp only [decide_eq_true_eq, decide_eq_false_iff_not, Bool.or_eq_false_iff, Bool.not_eq_true', Bool.not_eq_false', Bool.not_true, Bool.not_false, ints_length, List.length_map, tab_length] at *; omega)); exact (fun _ => rfl); (rw [mixL_length hO, List.length_replicate]; first | omega | (simp only [decide_eq_true_eq, decide_eq_false_iff_not, Bool.or_eq_false_iff, Bool.not_eq_true', Bool.not_eq_false', Bool.not_true, Bool.not_false, ints_length, List.length_map, tab_length] at *; omega)))
    | (refine tr_loop_v (α := Nat) 5 (fun | k => [(23, some (.int .i64 (k : Int))), (24, none), (25, none), (8, none), (26, none), (27, none), (28, none), (29, none), (30, none), (31, none), (32, none), (33, none), (34, none)]) (fun | k => [some ⟨0, 2, [(.agg [.fn 39 [], .fn 68 []])]⟩, some ⟨0, 2, [eIn pi true l]⟩, some ⟨0, 2, [.agg [.bool false, .lit []]]⟩, some ⟨0, 1, (mixL R (List.replicate N z8) k).map ps⟩, some ⟨0, 2, [.agg [.bool true, .ref 3 0 0 N]]⟩]) (fun | k => k ≤ N) (fun | k => N - k) (0) (ks := [23, 24, 25, 8, 26, 27, 28, 29, 30, 31, 32, 33, 34]) (fun _ => rfl) (fun _ => rfl) rfl (by omega) ?_ ⟨⟨_, rfl, rfl⟩, trivial⟩ ⟨⟨_, rfl, rfl, rfl, (by first | exact fzP_vals (fun _ => rfl) (mixL_set hO (by first | omega | (simp only [decide_eq_true_eq, decide_eq_false_iff_not, Bool.or_eq_false_iff, Bool.not_eq_true', Bool.not_eq_false', Bool.not_true, Bool.not_false, ints_length, List.length_map, tab_length] at *; omega)) z8) |  rfl | exact fzP_pure (ints_pure _) | exact fzP_pure (u64s_pure _) | exact fzP_pure (by assumption) | exact fzP_pure (by first | (simp [pureE, pure1, ints]; done) | (simp_all [pe_int, pe_bool, pe_str, pe_sl, pe_agg, p1_int, p1_bool, p1_str, p1_sl]; done)))⟩, ⟨_, rfl, rfl, rfl, (by first | exact fzP_vals (fun _ => rfl) (mixL_set hO (by first | omega | (simp only [decide_eq_true_eq, decide_eq_false_iff_not, Bool.or_eq_false_iff, Bool.not_eq_true', Bool.not_eq_false', Bool.not_true, Bool.not_false, ints_length, List.length_map, tab_length] at *; omega)) z8) |  rfl | exact fzP_pure (ints_pure _) | exact fzP_pure (u64s_pure _) | exact fzP_pure (by assumption) | exact fzP_pure (by first | (simp [pureE, pure1, ints]; done) | (simp_all [pe_int, pe_bool, pe_str, pe_sl, pe_agg, p1_int, p1_bool, p1_str, p1_sl]; done)))⟩, ⟨_, rfl, rfl, rfl, (by first | exact fzP_vals (fun _ => rfl) (mixL_set hO (by first | omega | (simp only [decide_eq_true_eq, decide_eq_false_iff_not, Bool.or_eq_false_iff, Bool.not_eq_true', Bool.not_eq_false', Bool.not_true, Bool.not_false, ints_length, List.length_map, tab_length] at *; omega)) z8) |  rfl | exact fzP_pure (ints_pure _) | exact fzP_pure (u64s_pure _) | exact fzP_pure (by assumption) | exact fzP_pure (by first | (simp [pureE, pure1, ints]; done) | (simp_all [pe_int, pe_bool, pe_str, pe_sl, pe_agg, p1_int, p1_bool, p1_str, p1_sl]; done)))⟩, ⟨_, rfl, rfl, rfl, (by first | exact fzP_vals (fun _ => rfl) (mixL_set hO (by first | omega | (simp only [decide_eq_true_eq, decide_eq_false_iff_not, Bool.or_eq_false_iff, Bool.not_eq_true', Bool.not_eq_false', Bool.not_true, Bool.not_false, ints_length, List.length_map, tab_length] at *; omega)) z8) |  rfl | exact fzP_pure (ints_pure _) | exact fzP_pure (u64s_pure _) | exact fzP_pure (by assumption) | exact fzP_pure (by first | (simp [pureE, pure1, ints]; done) | (simp_all [pe_int, pe_bool, pe_str, pe_sl, pe_agg, p1_int, p1_bool, p1_str, p1_sl]; done)))⟩, ⟨_, rfl, rfl, rfl, (by first | exact fzP_vals (fun _ => rfl) (mixL_set hO (by first | omega | (simp only [decide_eq_true_eq, decide_eq_false_iff_not, Bool.or_eq_false_iff, Bool.not_eq_true', Bool.not_eq_false', Bool.not_true, Bool.not_false, ints_length, List.length_map, tab_length] at *; omega)) z8) |  rfl | exact fzP_pure (ints_pure _) | exact fzP_pure (u64s_pure _) | exact fzP_pure (by assumption) | exact fzP_pure (by first | (simp [pureE, pure1, ints]; done) | (simp_all [pe_int, pe_bool, pe_str, pe_sl, pe_agg, p1_int, p1_bool, p1_str, p1_sl]; done)))⟩, trivial⟩ ?_; rotate_left; rintro k hx; try dsimp only at hx)
    | (refine loopV_normal ((k + 1)) ?_ ⟨⟨_, rfl, rfl⟩, trivial⟩ ⟨⟨_, rfl, rfl, rfl, (by first | exact fzP_vals (fun _ => rfl) (mixL_set hO (by first | omega | (simp only [decide_eq_true_eq, decide_eq_false_iff_not, Bool.or_eq_false_iff, Bool.not_eq_true', Bool.not_eq_false', Bool.not_true, Bool.not_false, ints_length, List.length_map, tab_length] at *; omega)) z8) |  rfl | exact fzP_pure (ints_pure _) | exact fzP_pure (u64s_pure _) | exact fzP_pure (by assumption) | exact fzP_pure (by first | (simp [pureE, pure1, ints]; done) | (simp_all [pe_int, pe_bool, pe_str, pe_sl, pe_agg, p1_int, p1_bool, p1_str, p1_sl]; done)))⟩, ⟨_, rfl, rfl, rfl, (by first | exact fzP_vals (fun _ => rfl) (mixL_set hO (by first | omega | (simp only [decide_eq_true_eq, decide_eq_false_iff_not, Bool.or_eq_false_iff, Bool.not_eq_true', Bool.not_eq_false', Bool.not_true, Bool.not_false, ints_length, List.length_map, tab_length] at *; omega)) z8) |  rfl | exact fzP_pure (ints_pure _) | exact fzP_pure (u64s_pure _) | exact fzP_pure (by assumption) | exact fzP_pure (by first | (simp [pureE, pure1, ints]; done) | (simp_all [pe_int, pe_bool, pe_str, pe_sl, pe_agg, p1_int, p1_bool, p1_str, p1_sl]; done)))⟩, ⟨_, rfl, rfl, rfl, (by first | exact fzP_vals (fun _ => rfl) (mixL_set hO (by first | omega | (simp only [decide_eq_true_eq, decide_eq_false_iff_not, Bool.or_eq_false_iff, Bool.not_eq_true', Bool.not_eq_false', Bool.not_true, Bool.not_false, ints_length, List.length_map, tab_length] at *; omega)) z8) |  rfl | exact fzP_pure (ints_pure _) | exact fzP_pure (u64s_pure _) | exact fzP_pure (by assumption) | exact fzP_pure (by first | (simp [pureE, pure1, ints]; done) | (simp_all [pe_int, pe_bool, pe_str, pe_sl, pe_agg, p1_int, p1_bool, p1_str, p1_sl]; done)))⟩, ⟨_, rfl, rfl, rfl, (by first | exact fzP_vals (fun _ => rfl) (mixL_set hO (by first | omega | (simp only [decide_eq_true_eq, decide_eq_false_iff_not, Bool.or_eq_false_iff, Bool.not_eq_true', Bool.not_eq_false', Bool.not_true, Bool.not_false, ints_length, List.length_map, tab_length] at *; omega)) z8) |  rfl | exact fzP_pure (ints_pure _) | exact fzP_pure (u64s_pure _) | exact fzP_pure (by assumption) | exact fzP_pure (by first | (simp [pureE, pure1, ints]; done) | (simp_all [pe_int, pe_bool, pe_str, pe_sl, pe_agg, p1_int, p1_bool, p1_str, p1_sl]; done)))⟩, ⟨_, rfl, rfl, rfl, (by first | exact fzP_vals (fun _ => rfl) (mixL_set hO (by first | omega | (simp only [decide_eq_true_eq, decide_eq_false_iff_not, Bool.or_eq_false_iff, Bool.not_eq_true', Bool.not_eq_false', Bool.not_true, Bool.not_false, ints_length, List.length_map, tab_length] at *; omega)) z8) |  rfl | exact fzP_pure (ints_pure _) | exact fzP_pure (u64s_pure _) | exact fzP_pure (by assumption) | exact fzP_pure (by first | (simp [pureE, pure1, ints]; done) | (simp_all [pe_int, pe_bool, pe_str, pe_sl, pe_agg, p1_int, p1_bool, p1_str, p1_sl]; done)))⟩, trivial⟩ ?_ ?_; repeat (first | exact only_refl | refine only_put rfl ?_ | refine only_less rfl ?_ | refine only_ov rfl ?_))
    | ((with_reducible apply n_val); rfl; rfl)
    | ((with_reducible apply n_new); rfl; (first | (simp only [hn0, hn1, hn2, hn3, hn4, hn5, List.length_cons, List.length_nil, Nat.reduceAdd, Nat.zero_add]; done) | (simp only [hn0, hn1, hn2, hn3, hn4, hn5, List.length_cons, List.length_nil, Nat.reduceAdd, Nat.zero_add]; rfl) | rfl); rfl)
    | ((with_reducible apply n_store); rfl; rfl; rfl; rfl; rfl)
    | ((with_reducible apply n_call (f := 56)); rfl; rfl; exact p_envs_get ..)
    | (with_reducible refine condT_split (fun h => ?_) (fun h => ?_))
    | ((with_reducible apply fnQ_told_ret); rfl)
    | ((with_reducible apply fnQ_ret_soft); rfl; rfl)
  all_goals (try dsimp only at *)
  all_goals (try simp only [decide_eq_true_eq, decide_eq_false_iff_not] at *)
  · omega
  · omega
  · rfl
  · rw [mixL_full (by simp; omega) (by omega)]
    exact ⟨⟨_, rfl, rfl, rfl, fzP_vals (fun _ => rfl) rfl⟩, trivial⟩
  · omega
theorem p_envs_own_off (l : List I64) (n : Int) : Pure Go.Proofs.Try.prog gl 69 [(.agg [.fn 39 [], .fn 68 []]), eIn pi false l, .int .i64 n] (.agg [.bool false, .sl []]) := by
  refine Pure.fn hmix b69 ?_
  repeat' first
    | with_reducible refine tr_seq ?_
    | ((with_reducible refine tr_region_f ?_ ?_); kernel_rfl)
    | ((with_reducible refine tr_region_t ?_ ?_ ?_); kernel_rfl; kernel_rfl)
    | with_reducible refine n_nil ?_
    | with_reducible refine seqQ_normal ?_
    | with_reducible refine seqQ_exit ?_
    | with_reducible refine seqQ_ret ?_
    | with_reducible refine blkQ_normal ?_
    | with_reducible refine blkQ_exit ?_
    | with_reducible refine blkQ_ret ?_
    | ((with_reducible refine blkQ_exit_ne ?_ ?_); rfl)
    | with_reducible refine tr_block ?_
    | with_reducible refine tr_skip ?_
    | with_reducible refine tr_exit ?_
    | with_reducible refine tr_ret ?_
    | ((with_reducible apply tr_cond_e); rfl)
    | with_reducible refine condT_t ?_
    | with_reducible refine condT_f ?_
    | ((with_reducible refine condT_T ?_ ?_); decide +kernel)
    | ((with_reducible refine condT_F ?_ ?_); decide +kernel)
    | ((with_reducible apply n_andF); rfl; rfl; decide +kernel)
    | ((with_reducible apply n_orT); rfl; rfl; decide +kernel)
    | with_reducible refine loopV_exit ?_
    | with_reducible refine loopV_ret ?_
    | with_reducible refine unrQ_normal ?_
    | with_reducible refine unrQ_exit ?_
    | with_reducible refine unrQ_ret ?_
    | ((with_reducible apply n_val); rfl; rfl)
    | ((with_reducible apply n_new); rfl; (first | (simp only [hn0, hn1, hn2, hn3, hn4, hn5, List.length_cons, List.length_nil, Nat.reduceAdd, Nat.zero_add]; done) | (simp only [hn0, hn1, hn2, hn3, hn4, hn5, List.length_cons, List.length_nil, Nat.reduceAdd, Nat.zero_add]; rfl) | rfl); rfl)
    | ((with_reducible apply n_store); rfl; rfl; rfl; rfl; rfl)
    | (with_reducible refine condT_split (fun h => ?_) (fun h => ?_))
    | ((with_reducible apply fnQ_told_ret); rfl)
    | ((with_reducible apply fnQ_ret_soft); rfl; rfl)
  rfl
theorem f_envs_own0 (l : List I64) (hb : l.length ≤ 1000) : Fresh Go.Proofs.Try.prog gl 69 [(.agg [.fn 39 [], .fn 68 []]), eIn pi true l, .int .i64 0] (.agg [.bool true, .ref 3 0 0 l.length]) (Hp.ofL [none, none, none, some ⟨0, 1, (l.map s8).map ps⟩]) :=
  f_envs_own l 0 l.length (by omega) hb _ (by have := tab_of (l.map s8) z8; rw [List.length_map] at this; exact this.symm)
theorem p_envs_own (on : Bool) (l : List I64) (hb : l.length ≤ 1000) : Pure Go.Proofs.Try.prog gl 69 [(.agg [.fn 39 [], .fn 68 []]), eIn pi on l, .int .i64 0] (eOut ps (eAbs s8 on l)) := by
  cases on with
  | false => exact p_envs_own_off l 0
  | true => exact (f_envs_own0 l hb).pure (soft_env (xs := l.map s8) (f := ps) rfl (fun _ => rfl) (List.length_map ..).symm)
theorem p_envs_set (on : Bool) (l : List I64) (i : Int) (c : I64) (hb : l.length ≤ 1000) : Pure Go.Proofs.Try.prog gl 60 [(.agg [.fn 39 [], .fn 68 []]), eIn pi on l, .int .i64 i, pi c] (eOut ps (eSet (eAbs s8 on l) i (s8 c))) := by
  cases on with
  | false =>
    refine Pure.fn hmix b60 ?_
    repeat' first
      | with_reducible refine tr_seq ?_
      | ((with_reducible refine tr_region_f ?_ ?_); kernel_rfl)
      | ((with_reducible refine tr_region_t ?_ ?_ ?_); kernel_rfl; kernel_rfl)
      | with_reducible refine n_nil ?_
      | exact ⟨rfl, rfl⟩
      | with_reducible refine seqQ_normal ?_
      | with_reducible refine seqQ_ret ?_
      | with_reducible refine blkQ_ret ?_
      | with_reducible refine tr_skip ?_
      | with_reducible refine tr_ret ?_
      | ((with_reducible apply tr_cond_e); rfl)
      | with_reducible refine condT_t ?_
      | with_reducible refine condT_f ?_
      | ((with_reducible apply n_and); rfl; rfl; intro h)
      | ((with_reducible apply n_or); rfl; rfl; intro h)
      | ((with_reducible apply n_val); rfl; rfl)
      | ((with_reducible apply n_new); rfl; (first | (simp only [hn0, hn1, hn2, hn3, hn4, hn5, List.length_cons, List.length_nil, Nat.reduceAdd, Nat.zero_add]; done) | (simp only [hn0, hn1, hn2, hn3, hn4, hn5, List.length_cons, List.length_nil, Nat.reduceAdd, Nat.zero_add]; rfl) | rfl); rfl)
      | ((with_reducible apply n_store); rfl; rfl; rfl; rfl; rfl)
      | ((with_reducible apply n_call (f := 69)); rfl; rfl; exact p_envs_own_off ..)
      | (with_reducible refine condT_split (fun h => ?_) (fun h => ?_))
      | ((with_reducible apply fnQ_told_ret); rfl)
      | ((with_reducible apply fnQ_ret_soft); rfl; rfl)
    · exfalso
      simp only [Bool.and_eq_true, decide_eq_true_eq, List.length_nil] at h
      omega
    · rfl
  | true =>
    refine Pure.fn hmix b60 ?_
    repeat' first
      | with_reducible refine tr_seq ?_
      | ((with_reducible refine tr_region_f ?_ ?_); kernel_rfl)
      | ((with_reducible refine tr_region_t ?_ ?_ ?_); kernel_rfl; kernel_rfl)
      | with_reducible refine n_nil ?_
      | exact ⟨rfl, rfl⟩
      | with_reducible refine seqQ_normal ?_
      | with_reducible refine seqQ_ret ?_
      | with_reducible refine blkQ_ret ?_
      | with_reducible refine tr_skip ?_
      | with_reducible refine tr_ret ?_
      | ((with_reducible apply tr_cond_e); rfl)
      | with_reducible refine condT_t ?_
      | with_reducible refine condT_f ?_
      | ((with_reducible apply n_and); rfl; rfl; intro h)
      | ((with_reducible apply n_or); rfl; rfl; intro h)
      | ((with_reducible apply n_idx_own); rfl; rfl; rfl; (simp only [Bool.and_eq_true, decide_eq_true_eq] at h; exact ⟨h.1, h.2⟩))
      | ((with_reducible apply n_store_vals (f := ps) (s8 c)); rfl; rfl; rfl; rfl; exact (fun _ => rfl); (simp only [Bool.and_eq_true, decide_eq_true_eq, List.length_map] at *; omega))
      | ((with_reducible apply fnQ_ret_env (f := ps)); rfl; rfl; exact (fun _ => rfl); exact (by simp))
      | ((with_reducible apply n_val); rfl; rfl)
      | ((with_reducible apply n_new); rfl; (first | (simp only [hn0, hn1, hn2, hn3, hn4, hn5, List.length_cons, List.length_nil, Nat.reduceAdd, Nat.zero_add]; done) | (simp only [hn0, hn1, hn2, hn3, hn4, hn5, List.length_cons, List.length_nil, Nat.reduceAdd, Nat.zero_add]; rfl) | rfl); rfl)
      | ((with_reducible apply n_store); rfl; rfl; rfl; rfl; rfl)
      | ((with_reducible apply n_freshL (f := 69)); (first | (simp only [hn0, hn1, hn2, hn3, hn4, hn5, List.length_cons, List.length_nil, Nat.reduceAdd, Nat.zero_add]; done) | (simp only [hn0, hn1, hn2, hn3, hn4, hn5, List.length_cons, List.length_nil, Nat.reduceAdd, Nat.zero_add]; rfl) | rfl); rfl; rfl; exact f_envs_own0 l hb; rfl; (repeat (first | exact ShL.nil | apply ShL.none | (apply ShL.some; (first | rfl | exact shiftPs_pure (u64s_pure _) | exact shiftPs_pure (ints_pure _) | exact shiftPs_pure (vals_pure (fun _ => rfl) _))))))
      | ((with_reducible apply n_call (f := 72)); rfl; rfl; exact p_envs_sane ..)
      | (with_reducible refine condT_split (fun h => ?_) (fun h => ?_))
      | ((with_reducible apply fnQ_told_ret); rfl)
      | ((with_reducible apply fnQ_ret_soft); rfl; rfl)
    all_goals (simp only [Bool.and_eq_true, decide_eq_true_eq, Bool.and_eq_false_iff, decide_eq_false_iff_not] at h)
    · rw [eAbs_on, eSet, Option.map_some, if_pos (by omega)]
      rfl
    · have e : eSet (eAbs s8 true l) i (s8 c) = some (l.map s8) := by
        rw [eAbs_on, eSet, Option.map_some]
        congr 1
        split
        · rw [List.set_eq_of_length_le (by rw [List.length_map]; omega)]
        · rfl
      rw [e]
      rfl
theorem eJoinS_on (l m : List I64) : eJoin z8 S8.join (eAbs s8 true l) (eAbs s8 true m) = some (tab (max l.length m.length) fun k => ((l.map s8).getD k z8).join ((m.map s8).getD k z8)) := by
  simp [eAbs, eJoin]
theorem p_envs_joined (oa ob : Bool) (l m : List I64) (hl : l.length ≤ 1000) (hm : m.length ≤ 1000) : Pure Go.Proofs.Try.prog gl 48 [(.agg [.fn 39 [], .fn 68 []]), eIn pi oa l, eIn pi ob m] (eOut ps (eJoin z8 S8.join (eAbs s8 oa l) (eAbs s8 ob m))) := by
  cases oa with
  | false =>
    refine Pure.fn hmix b48 ?_
    repeat' first
      | with_reducible refine tr_seq ?_
      | ((with_reducible refine tr_region_f ?_ ?_); kernel_rfl)
      | ((with_reducible refine tr_region_t ?_ ?_ ?_); kernel_rfl; kernel_rfl)
      | with_reducible refine n_nil ?_
      | with_reducible refine seqQ_normal ?_
      | with_reducible refine seqQ_exit ?_
      | with_reducible refine seqQ_ret ?_
      | with_reducible refine blkQ_normal ?_
      | with_reducible refine blkQ_exit ?_
      | with_reducible refine blkQ_ret ?_
      | ((with_reducible refine blkQ_exit_ne ?_ ?_); rfl)
      | with_reducible refine tr_block ?_
      | with_reducible refine tr_skip ?_
      | with_reducible refine tr_exit ?_
      | with_reducible refine tr_ret ?_
      | ((with_reducible apply tr_cond_e); rfl)
      | with_reducible refine condT_t ?_
      | with_reducible refine condT_f ?_
      | ((with_reducible refine condT_T ?_ ?_); decide +kernel)
      | ((with_reducible refine condT_F ?_ ?_); decide +kernel)
      | ((with_reducible apply n_andF); rfl; rfl; decide +kernel)
      | ((with_reducible apply n_orT); rfl; rfl; decide +kernel)
      | with_reducible refine loopV_exit ?_
      | with_reducible refine loopV_ret ?_
      | with_reducible refine unrQ_normal ?_
      | with_reducible refine unrQ_exit ?_
      | with_reducible refine unrQ_ret ?_
      | ((with_reducible apply n_val); rfl; rfl)
      | ((with_reducible apply n_new); rfl; (first | (simp only [hn0, hn1, hn2, hn3, hn4, hn5, List.length_cons, List.length_nil, Nat.reduceAdd, Nat.zero_add]; done) | (simp only [hn0, hn1, hn2, hn3, hn4, hn5, List.length_cons, List.length_nil, Nat.reduceAdd, Nat.zero_add]; rfl) | rfl); rfl)
      | ((with_reducible apply n_store); rfl; rfl; rfl; rfl; rfl)
      | ((with_reducible apply n_call (f := 69)); rfl; rfl; exact p_envs_own ob m hm)
      | (with_reducible refine condT_split (fun h => ?_) (fun h => ?_))
      | ((with_reducible apply fnQ_told_ret); rfl)
      | ((with_reducible apply fnQ_ret_soft); rfl; rfl)
    cases ob <;> rfl
  | true =>
  cases ob with
  | false =>
    refine Pure.fn hmix b48 ?_
    repeat' first
      | with_reducible refine tr_seq ?_
      | ((with_reducible refine tr_region_f ?_ ?_); kernel_rfl)
      | ((with_reducible refine tr_region_t ?_ ?_ ?_); kernel_rfl; kernel_rfl)
      | with_reducible refine n_nil ?_
      | with_reducible refine seqQ_normal ?_
      | with_reducible refine seqQ_exit ?_
      | with_reducible refine seqQ_ret ?_
      | with_reducible refine blkQ_normal ?_
      | with_reducible refine blkQ_exit ?_
      | with_reducible refine blkQ_ret ?_
      | ((with_reducible refine blkQ_exit_ne ?_ ?_); rfl)
      | with_reducible refine tr_block ?_
      | with_reducible refine tr_skip ?_
      | with_reducible refine tr_exit ?_
      | with_reducible refine tr_ret ?_
      | ((with_reducible apply tr_cond_e); rfl)
      | with_reducible refine condT_t ?_
      | with_reducible refine condT_f ?_
      | ((with_reducible refine condT_T ?_ ?_); decide +kernel)
      | ((with_reducible refine condT_F ?_ ?_); decide +kernel)
      | ((with_reducible apply n_andF); rfl; rfl; decide +kernel)
      | ((with_reducible apply n_orT); rfl; rfl; decide +kernel)
      | with_reducible refine loopV_exit ?_
      | with_reducible refine loopV_ret ?_
      | with_reducible refine unrQ_normal ?_
      | with_reducible refine unrQ_exit ?_
      | with_reducible refine unrQ_ret ?_
      | ((with_reducible apply n_val); rfl; rfl)
      | ((with_reducible apply n_new); rfl; (first | (simp only [hn0, hn1, hn2, hn3, hn4, hn5, List.length_cons, List.length_nil, Nat.reduceAdd, Nat.zero_add]; done) | (simp only [hn0, hn1, hn2, hn3, hn4, hn5, List.length_cons, List.length_nil, Nat.reduceAdd, Nat.zero_add]; rfl) | rfl); rfl)
      | ((with_reducible apply n_store); rfl; rfl; rfl; rfl; rfl)
      | ((with_reducible apply n_call (f := 69)); rfl; rfl; exact p_envs_own true l hl)
      | (with_reducible refine condT_split (fun h => ?_) (fun h => ?_))
      | ((with_reducible apply fnQ_told_ret); rfl)
      | ((with_reducible apply fnQ_ret_soft); rfl; rfl)
    rfl
  | true =>
    rw [eJoinS_on]
    obtain ⟨N, hN⟩ : ∃ N, N = max l.length m.length := ⟨_, rfl⟩
    rw [← hN]
    obtain ⟨O, hO⟩ : ∃ O, O = tab N fun k => (l.map s8).getD k z8 := ⟨_, rfl⟩
    obtain ⟨R, hR⟩ : ∃ R, R = tab N fun k => ((l.map s8).getD k z8).join ((m.map s8).getD k z8) := ⟨_, rfl⟩
    rw [← hR]
    have hOl : O.length = N := by rw [hO]; exact tab_length
    have hRl : R.length = N := by rw [hR]; exact tab_length
    have hRO : R.length = O.length := by rw [hOl, hRl]
    have hg : ∀ k : Nat, k < N → ps (((mixL R O k).getD k z8).join (eGet z8 (eAbs s8 true m) (k : Int))) = ps (R.getD k z8) := fun k hk => by
      rw [eGetS_on, hR, tab_getD hk, ← hR, mixL_getD hRO (by omega), hO, tab_getD hk]
    have hown := f_envs_own (gl := gl) l (m.length : Nat) N (by omega) (by omega) O hO
    refine Pure.fn hmix b48 ?_
    repeat' first
      | with_reducible refine tr_seq ?_
      | ((with_reducible refine tr_region_f ?_ ?_); kernel_rfl)
      | ((with_reducible refine tr_region_t ?_ ?_ ?_); kernel_rfl; kernel_rfl)
      | with_reducible refine n_nil ?_
      | with_reducible refine seqQ_normal ?_
      | with_reducible refine seqQ_exit ?_
      | with_reducible refine seqQ_ret ?_
      | with_reducible refine blkQ_normal ?_
      | with_reducible refine blkQ_exit ?_
      | with_reducible refine blkQ_ret ?_
      | ((with_reducible refine blkQ_exit_ne ?_ ?_); rfl)
      | with_reducible refine tr_block ?_
      | with_reducible refine tr_skip ?_
      | with_reducible refine tr_exit ?_
      | with_reducible refine tr_ret ?_
      | ((with_reducible apply tr_cond_e); rfl)
      | with_reducible refine condT_t ?_
      | with_reducible refine condT_f ?_
      | ((with_reducible refine condT_T ?_ ?_); decide +kernel)
      | ((with_reducible refine condT_F ?_ ?_); decide +kernel)
      | ((with_reducible apply n_andF); rfl; rfl; decide +kernel)
      | ((with_reducible apply n_orT); rfl; rfl; decide +kernel)
      | with_reducible refine loopV_exit ?_
      | with_reducible refine loopV_ret ?_
      | with_reducible refine unrQ_normal ?_
      | with_reducible refine unrQ_exit ?_
      | with_reducible refine unrQ_ret ?_
      | ((with_reducible apply n_freshL (f := 69)); rfl; rfl; rfl; (rw [List.length_map]; exact hown); rfl; (repeat (first | exact ShL.nil | apply ShL.none | (apply ShL.some; exact shiftPs_pure (vals_pure (fun _ => rfl) _)))))
      | (first | ((with_reducible apply n_bin); rfl; rfl; focus ((with_reducible (first | apply b_add | apply b_sub)) <;> first | omega | (simp only [decide_eq_true_eq, decide_eq_false_iff_not, Bool.or_eq_false_iff, Bool.not_eq_true', Bool.not_eq_false', Bool.not_true, Bool.not_false, ints_length, List.length_map, tab_length] at *; omega))) | ((with_reducible apply n_max); rfl; rfl) | ((with_reducible apply n_min); rfl; rfl))
      | ((with_reducible apply n_idx_own); rfl; rfl; rfl; (first | omega | (simp only [decide_eq_true_eq, decide_eq_false_iff_not, Bool.or_eq_false_iff, Bool.not_eq_true', Bool.not_eq_false', Bool.not_true, Bool.not_false, ints_length, List.length_map, tab_length] at *; omega)))
      | ((with_reducible apply n_load_vals (f := ps) z8); rfl; rfl; rfl; (rw [mixL_length hRO]; first | omega | (simp only [decide_eq_true_eq, decide_eq_false_iff_not, Bool.or_eq_false_iff, Bool.not_eq_true', Bool.not_eq_false', Bool.not_true, Bool.not_false, ints_length, List.length_map, tab_length] at *; omega)))
      | ((with_reducible apply n_callv); rfl; rfl; rfl; exact p_sign_JoinV ..)
      | ((with_reducible apply n_store_vals (f := ps) (R.getD k z8)); rfl; rfl; rfl; exact hg _ (by first | omega | (simp only [decide_eq_true_eq, decide_eq_false_iff_not, Bool.or_eq_false_iff, Bool.not_eq_true', Bool.not_eq_false', Bool.not_true, Bool.not_false, ints_length, List.length_map, tab_length] at *; omega)); exact (fun _ => rfl); (rw [mixL_length hRO]; first | omega | (simp only [decide_eq_true_eq, decide_eq_false_iff_not, Bool.or_eq_false_iff, Bool.not_eq_true', Bool.not_eq_false', Bool.not_true, Bool.not_false, ints_length, List.length_map, tab_length] at *; omega)))
      | ((with_reducible apply fnQ_ret_env (f := ps)); rfl; rfl; exact (fun _ => rfl); (rw [mixL_length hRO, hOl]))
      | (refine tr_loop_v (α := Nat) 9 (fun | k => [(29, some (.int .i64 (k : Int))), (30, none), (31, none), (8, none), (32, none), (33, none), (34, none), (35, none), (36, none), (37, none), (38, none), (39, none), (40, none), (41, none), (42, none), (43, none), (44, none), (45, none), (46, none), (47, none), (48, none)]) (fun | k => [some ⟨0, 2, [(.agg [.fn 39 [], .fn 68 []])]⟩, some ⟨0, 2, [eIn pi true l]⟩, some ⟨0, 2, [eIn pi true m]⟩, some ⟨0, 2, [.agg [.bool false, .lit []]]⟩, none, none, none, some ⟨0, 1, (mixL R O k).map ps⟩, some ⟨0, 2, [.agg [.bool true, .ref 7 0 0 N]]⟩]) (fun | k => k ≤ N) (fun | k => N - k) (0) (ks := [29, 30, 31, 8, 32, 33, 34, 35, 36, 37, 38, 39, 40, 41, 42, 43, 44, 45, 46, 47, 48]) (fun _ => rfl) (fun _ => rfl) rfl (by omega) ?_ ⟨⟨_, rfl, rfl⟩, trivial⟩ ⟨⟨_, rfl, rfl, rfl, (by first | exact fzP_vals (fun _ => rfl) (mixL_set hRO (by first | omega | (simp only [decide_eq_true_eq, decide_eq_false_iff_not, Bool.or_eq_false_iff, Bool.not_eq_true', Bool.not_eq_false', Bool.not_true, Bool.not_false, ints_length, List.length_map, tab_length] at *; omega)) z8) |  rfl | exact fzP_pure (ints_pure _) | exact fzP_pure (u64s_pure _) | exact fzP_pure (by assumption) | exact fzP_pure (by first | (simp [pureE, pure1, ints]; done) | (simp_all [pe_int, pe_bool, pe_str, pe_sl, pe_agg, p1_int, p1_bool, p1_str, p1_sl]; done)))⟩, ⟨_, rfl, rfl, rfl, (by first | exact fzP_vals (fun _ => rfl) (mixL_set hRO (by first | omega | (simp only [decide_eq_true_eq, decide_eq_false_iff_not, Bool.or_eq_false_iff, Bool.not_eq_true', Bool.not_eq_false', Bool.not_true, Bool.not_false, ints_length, List.length_map, tab_length] at *; omega)) z8) |  rfl | exact fzP_pure (ints_pure _) | exact fzP_pure (u64s_pure _) | exact fzP_pure (by assumption) | exact fzP_pure (by first | (simp [pureE, pure1, ints]; done) | (simp_all [pe_int, pe_bool, pe_str, pe_sl, pe_agg, p1_int, p1_bool, p1_str, p1_sl]; done)))⟩, ⟨_, rfl, rfl, rfl, (by first | exact fzP_vals (fun _ => rfl) (mixL_set hRO (by first | omega | (simp only [decide_eq_true_eq, decide_eq_false_iff_not, Bool.or_eq_false_iff, Bool.not_eq_true', Bool.not_eq_false', Bool.not_true, Bool.not_false, ints_length, List.length_map, tab_length] at *; omega)) z8) |  rfl | exact fzP_pure (ints_pure _) | exact fzP_pure (u64s_pure _) | exact fzP_pure (by assumption) | exact fzP_pure (by first | (simp [pureE, pure1, ints]; done) | (simp_all [pe_int, pe_bool, pe_str, pe_sl, pe_agg, p1_int, p1_bool, p1_str, p1_sl]; done)))⟩, ⟨_, rfl, rfl, rfl, (by first | exact fzP_vals (fun _ => rfl) (mixL_set hRO (by first | omega | (simp only [decide_eq_true_eq, decide_eq_false_iff_not, Bool.or_eq_false_iff, Bool.not_eq_true', Bool.not_eq_false', Bool.not_true, Bool.not_false, ints_length, List.length_map, tab_length] at *; omega)) z8) |  rfl | exact fzP_pure (ints_pure _) | exact fzP_pure (u64s_pure _) | exact fzP_pure (by assumption) | exact fzP_pure (by first | (simp [pureE, pure1, ints]; done) | (simp_all [pe_int, pe_bool, pe_str, pe_sl, pe_agg, p1_int, p1_bool, p1_str, p1_sl]; done)))⟩, ⟨_, rfl, rfl, rfl, (by first | exact fzP_vals (fun _ => rfl) (mixL_set hRO (by first | omega | (simp only [decide_eq_true_eq, decide_eq_false_iff_not, Bool.or_eq_false_iff, Bool.not_eq_true', Bool.not_eq_false', Bool.not_true, Bool.not_false, ints_length, List.length_map, tab_length] at *; omega)) z8) |  rfl | exact fzP_pure (ints_pure _) | exact fzP_pure (u64s_pure _) | exact fzP_pure (by assumption) | exact fzP_pure (by first | (simp [pureE, pure1, ints]; done) | (simp_all [pe_int, pe_bool, pe_str, pe_sl, pe_agg, p1_int, p1_bool, p1_str, p1_sl]; done)))⟩, ⟨_, rfl, rfl, rfl, (by first | exact fzP_vals (fun _ => rfl) (mixL_set hRO (by first | omega | (simp only [decide_eq_true_eq, decide_eq_false_iff_not, Bool.or_eq_false_iff, Bool.not_eq_true', Bool.not_eq_false', Bool.not_true, Bool.not_false, ints_length, List.length_map, tab_length] at *; omega)) z8) |  rfl | exact fzP_pure (ints_pure _) | exact fzP_pure (u64s_pure _) | exact fzP_pure (by assumption) | exact fzP_pure (by first | (simp [pureE, pure1, ints]; done) | (simp_all [pe_int, pe_bool, pe_str, pe_sl, pe_agg, p1_int, p1_bool, p1_str, p1_sl]; done)))⟩, trivial⟩ ?_; rotate_left; rintro k hx; try dsimp only at hx)
      | (refine loopV_normal ((k + 1)) ?_ ⟨⟨_, rfl, rfl⟩, trivial⟩ ⟨⟨_, rfl, rfl, rfl, (by first | exact fzP_vals (fun _ => rfl) (mixL_set hRO (by first | omega | (simp only [decide_eq_true_eq, decide_eq_false_iff_not, Bool.or_eq_false_iff, Bool.not_eq_true', Bool.not_eq_false', Bool.not_true, Bool.not_false, ints_length, List.length_map, tab_length] at *; omega)) z8) |  rfl | exact fzP_pure (ints_pure _) | exact fzP_pure (u64s_pure _) | exact fzP_pure (by assumption) | exact fzP_pure (by first | (simp [pureE, pure1, ints]; done) | (simp_all [pe_int, pe_bool, pe_str, pe_sl, pe_agg, p1_int, p1_bool, p1_str, p1_sl]; done)))⟩, ⟨_, rfl, rfl, rfl, (by first | exact fzP_vals (fun _ => rfl) (mixL_set hRO (by first | omega | (simp only [decide_eq_true_eq, decide_eq_false_iff_not, Bool.or_eq_false_iff, Bool.not_eq_true', Bool.not_eq_false', Bool.not_true, Bool.not_false, ints_length, List.length_map, tab_length] at *; omega)) z8) |  rfl | exact fzP_pure (ints_pure _) | exact fzP_pure (u64s_pure _) | exact fzP_pure (by assumption) | exact fzP_pure (by first | (simp [pureE, pure1, ints]; done) | (simp_all [pe_int, pe_bool, pe_str, pe_sl, pe_agg, p1_int, p1_bool, p1_str, p1_sl]; done)))⟩, ⟨_, rfl, rfl, rfl, (by first | exact fzP_vals (fun _ => rfl) (mixL_set hRO (by first | omega | (simp only [decide_eq_true_eq, decide_eq_false_iff_not, Bool.or_eq_false_iff, Bool.not_eq_true', Bool.not_eq_false', Bool.not_true, Bool.not_false, ints_length, List.length_map, tab_length] at *; omega)) z8) |  rfl | exact fzP_pure (ints_pure _) | exact fzP_pure (u64s_pure _) | exact fzP_pure (by assumption) | exact fzP_pure (by first | (simp [pureE, pure1, ints]; done) | (simp_all [pe_int, pe_bool, pe_str, pe_sl, pe_agg, p1_int, p1_bool, p1_str, p1_sl]; done)))⟩, ⟨_, rfl, rfl, rfl, (by first | exact fzP_vals (fun _ => rfl) (mixL_set hRO (by first | omega | (simp only [decide_eq_true_eq, decide_eq_false_iff_not, Bool.or_eq_false_iff, Bool.not_eq_true', Bool.not_eq_false', Bool.not_true, Bool.not_false, ints_length, List.length_map, tab_length] at *; omega)) z8) |  rfl | exact fzP_pure (ints_pure _) | exact fzP_pure (u64s_pure _) | exact fzP_pure (by assumption) | exact fzP_pure (by first | (simp [pureE, pure1, ints]; done) | (simp_all [pe_int, pe_bool, pe_str, pe_sl, pe_agg, p1_int, p1_bool, p1_str, p1_sl]; done)))⟩, ⟨_, rfl, rfl, rfl, (by first | exact fzP_vals (fun _ => rfl) (mixL_set hRO (by first | omega | (simp only [decide_eq_true_eq, decide_eq_false_iff_not, Bool.or_eq_false_iff, Bool.not_eq_true', Bool.not_eq_false', Bool.not_true, Bool.not_false, ints_length, List.length_map, tab_length] at *; omega)) z8) |  rfl | exact fzP_pure (ints_pure _) | exact fzP_pure (u64s_pure _) | exact fzP_pure (by assumption) | exact fzP_pure (by first | (simp [pureE, pure1, ints]; done) | (simp_all [pe_int, pe_bool, pe_str, pe_sl, pe_agg, p1_int, p1_bool, p1_str, p1_sl]; done)))⟩, ⟨_, rfl, rfl, rfl, (by first | exact fzP_vals (fun _ => rfl) (mixL_set hRO (by first | omega | (simp only [decide_eq_true_eq, decide_eq_false_iff_not, Bool.or_eq_false_iff, Bool.not_eq_true', Bool.not_eq_false', Bool.not_true, Bool.not_false, ints_length, List.length_map, tab_length] at *; omega)) z8) |  rfl | exact fzP_pure (ints_pure _) | exact fzP_pure (u64s_pure _) | exact fzP_pure (by assumption) | exact fzP_pure (by first | (simp [pureE, pure1, ints]; done) | (simp_all [pe_int, pe_bool, pe_str, pe_sl, pe_agg, p1_int, p1_bool, p1_str, p1_sl]; done)))⟩, trivial⟩ ?_ ?_; repeat (first | exact only_refl | refine only_put rfl ?_ | refine only_less rfl ?_ | refine only_ov rfl ?_))
      | ((with_reducible apply n_val); rfl; rfl)
      | ((with_reducible apply n_new); rfl; (first | (simp only [hn0, hn1, hn2, hn3, hn4, hn5, List.length_cons, List.length_nil, Nat.reduceAdd, Nat.zero_add]; done) | (simp only [hn0, hn1, hn2, hn3, hn4, hn5, List.length_cons, List.length_nil, Nat.reduceAdd, Nat.zero_add]; rfl) | rfl); rfl)
      | ((with_reducible apply n_store); rfl; rfl; rfl; rfl; rfl)
      | ((with_reducible apply n_call (f := 56)); rfl; rfl; exact p_envs_get ..)
      | (with_reducible refine condT_split (fun h => ?_) (fun h => ?_))
      | ((with_reducible apply fnQ_told_ret); rfl)
      | ((with_reducible apply fnQ_ret_soft); rfl; rfl)
    all_goals (try dsimp only at *)
    all_goals (try simp only [decide_eq_true_eq, decide_eq_false_iff_not] at *)
    · omega
    · omega
    · rw [mixL_full (by omega) (by omega)]
      rfl
    · omega
theorem p_envs_below (oa ob : Bool) (l m : List I64) (hl : l.length ≤ 1000) (hm : m.length ≤ 1000) : Pure Go.Proofs.Try.prog gl 49 [(.agg [.fn 39 [], .fn 68 []]), eIn pi oa l, eIn pi ob m] (.bool (eLeq z8 S8.leq (eAbs s8 oa l) (eAbs s8 ob m))) := by
  cases oa with
  | false =>
    refine Pure.fn hmix b49 ?_
    repeat' first
      | with_reducible refine tr_seq ?_
      | ((with_reducible refine tr_region_f ?_ ?_); kernel_rfl)
      | ((with_reducible refine tr_region_t ?_ ?_ ?_); kernel_rfl; kernel_rfl)
      | with_reducible refine n_nil ?_
      | exact ⟨rfl, rfl⟩
      | with_reducible refine seqQ_normal ?_
      | with_reducible refine seqQ_exit ?_
      | with_reducible refine seqQ_ret ?_
      | with_reducible refine blkQ_normal ?_
      | with_reducible refine blkQ_exit ?_
      | with_reducible refine blkQ_ret ?_
      | ((with_reducible refine blkQ_exit_ne ?_ ?_); rfl)
      | with_reducible refine tr_block ?_
      | with_reducible refine tr_skip ?_
      | with_reducible refine tr_exit ?_
      | with_reducible refine tr_ret ?_
      | ((with_reducible apply tr_cond_e); rfl)
      | with_reducible refine condT_t ?_
      | with_reducible refine condT_f ?_
      | ((with_reducible refine condT_T ?_ ?_); decide +kernel)
      | ((with_reducible refine condT_F ?_ ?_); decide +kernel)
      | ((with_reducible apply n_andF); rfl; rfl; decide +kernel)
      | ((with_reducible apply n_orT); rfl; rfl; decide +kernel)
      | ((with_reducible apply n_and); rfl; rfl; intro h)
      | ((with_reducible apply n_or); rfl; rfl; intro h)
      | with_reducible refine loopV_exit ?_
      | with_reducible refine loopV_ret ?_
      | with_reducible refine unrQ_normal ?_
      | with_reducible refine unrQ_exit ?_
      | with_reducible refine unrQ_ret ?_
      | ((with_reducible apply n_val); rfl; rfl)
      | ((with_reducible apply n_new); rfl; (first | (simp only [hn0, hn1, hn2, hn3, hn4, hn5, List.length_cons, List.length_nil, Nat.reduceAdd, Nat.zero_add]; done) | (simp only [hn0, hn1, hn2, hn3, hn4, hn5, List.length_cons, List.length_nil, Nat.reduceAdd, Nat.zero_add]; rfl) | rfl); rfl)
      | (with_reducible refine condT_split (fun h => ?_) (fun h => ?_))
      | ((with_reducible apply fnQ_told_ret); rfl)
      | ((with_reducible apply fnQ_ret_soft); rfl; rfl)
    all_goals rfl
  | true =>
  cases ob with
  | false =>
    refine Pure.fn hmix b49 ?_
    repeat' first
      | with_reducible refine tr_seq ?_
      | ((with_reducible refine tr_region_f ?_ ?_); kernel_rfl)
      | ((with_reducible refine tr_region_t ?_ ?_ ?_); kernel_rfl; kernel_rfl)
      | with_reducible refine n_nil ?_
      | exact ⟨rfl, rfl⟩
      | with_reducible refine seqQ_normal ?_
      | with_reducible refine seqQ_exit ?_
      | with_reducible refine seqQ_ret ?_
      | with_reducible refine blkQ_normal ?_
      | with_reducible refine blkQ_exit ?_
      | with_reducible refine blkQ_ret ?_
      | ((with_reducible refine blkQ_exit_ne ?_ ?_); rfl)
      | with_reducible refine tr_block ?_
      | with_reducible refine tr_skip ?_
      | with_reducible refine tr_exit ?_
      | with_reducible refine tr_ret ?_
      | ((with_reducible apply tr_cond_e); rfl)
      | with_reducible refine condT_t ?_
      | with_reducible refine condT_f ?_
      | ((with_reducible refine condT_T ?_ ?_); decide +kernel)
      | ((with_reducible refine condT_F ?_ ?_); decide +kernel)
      | ((with_reducible apply n_andF); rfl; rfl; decide +kernel)
      | ((with_reducible apply n_orT); rfl; rfl; decide +kernel)
      | ((with_reducible apply n_and); rfl; rfl; intro h)
      | ((with_reducible apply n_or); rfl; rfl; intro h)
      | with_reducible refine loopV_exit ?_
      | with_reducible refine loopV_ret ?_
      | with_reducible refine unrQ_normal ?_
      | with_reducible refine unrQ_exit ?_
      | with_reducible refine unrQ_ret ?_
      | ((with_reducible apply n_val); rfl; rfl)
      | ((with_reducible apply n_new); rfl; (first | (simp only [hn0, hn1, hn2, hn3, hn4, hn5, List.length_cons, List.length_nil, Nat.reduceAdd, Nat.zero_add]; done) | (simp only [hn0, hn1, hn2, hn3, hn4, hn5, List.length_cons, List.length_nil, Nat.reduceAdd, Nat.zero_add]; rfl) | rfl); rfl)
      | (with_reducible refine condT_split (fun h => ?_) (fun h => ?_))
      | ((with_reducible apply fnQ_told_ret); rfl)
      | ((with_reducible apply fnQ_ret_soft); rfl; rfl)
    all_goals rfl
  | true =>
    obtain ⟨N, hN⟩ : ∃ N, N = max l.length m.length := ⟨_, rfl⟩
    have e : eLeq z8 S8.leq (eAbs s8 true l) (eAbs s8 true m) = (List.range N).all fun k => ((l.map s8).getD k z8).leq ((m.map s8).getD k z8) := by
      rw [hN]; simp [eAbs, eLeq]
    rw [e]
    refine Pure.fn hmix b49 ?_
    repeat' first
      | with_reducible refine tr_seq ?_
      | ((with_reducible refine tr_region_f ?_ ?_); kernel_rfl)
      | ((with_reducible refine tr_region_t ?_ ?_ ?_); kernel_rfl; kernel_rfl)
      | with_reducible refine n_nil ?_
      | exact ⟨rfl, rfl⟩
      | with_reducible refine seqQ_normal ?_
      | with_reducible refine seqQ_exit ?_
      | with_reducible refine seqQ_ret ?_
      | with_reducible refine blkQ_normal ?_
      | with_reducible refine blkQ_exit ?_
      | with_reducible refine blkQ_ret ?_
      | ((with_reducible refine blkQ_exit_ne ?_ ?_); rfl)
      | with_reducible refine tr_block ?_
      | with_reducible refine tr_skip ?_
      | with_reducible refine tr_exit ?_
      | with_reducible refine tr_ret ?_
      | ((with_reducible apply tr_cond_e); rfl)
      | with_reducible refine condT_t ?_
      | with_reducible refine condT_f ?_
      | ((with_reducible refine condT_T ?_ ?_); decide +kernel)
      | ((with_reducible refine condT_F ?_ ?_); decide +kernel)
      | ((with_reducible apply n_andF); rfl; rfl; decide +kernel)
      | ((with_reducible apply n_orT); rfl; rfl; decide +kernel)
      | ((with_reducible apply n_and); rfl; rfl; intro h)
      | ((with_reducible apply n_or); rfl; rfl; intro h)
      | with_reducible refine loopV_exit ?_
      | with_reducible refine loopV_ret ?_
      | with_reducible refine unrQ_normal ?_
      | with_reducible refine unrQ_exit ?_
      | with_reducible refine unrQ_ret ?_
      | ((with_reducible apply n_max_to (c := (N : Int))); rfl; rfl; (rw [List.length_map, List.length_map]; omega))
      | (first | ((with_reducible apply n_bin); rfl; rfl; focus ((with_reducible (first | apply b_add | apply b_sub)) <;> first | omega | (simp only [decide_eq_true_eq, decide_eq_false_iff_not, Bool.or_eq_false_iff, Bool.not_eq_true', Bool.not_eq_false', Bool.not_true, Bool.not_false, ints_length, List.length_map, tab_length] at *; omega))) | ((with_reducible apply n_max); rfl; rfl) | ((with_reducible apply n_min); rfl; rfl))
      | ((with_reducible apply n_callv); rfl; rfl; rfl; exact p_sign_LeqV ..)
      | (refine tr_loop_v (α := Nat) 3 (fun | k => [(26, some (.int .i64 (k : Int))), (27, none), (28, none), (7, none), (29, none), (30, none), (31, none), (32, none), (33, none), (34, none), (35, none), (36, none), (37, none), (38, none), (39, none), (40, none), (6, none), (41, none)]) (fun | k => [some ⟨0, 2, [(.agg [.fn 39 [], .fn 68 []])]⟩, some ⟨0, 2, [eIn pi true l]⟩, some ⟨0, 2, [eIn pi true m]⟩]) (fun | k => k ≤ N ∧ ∀ j, j < k → ((l.map s8).getD j z8).leq ((m.map s8).getD j z8) = true) (fun | k => N - k) (0) (ks := [26, 27, 28, 7, 29, 30, 31, 32, 33, 34, 35, 36, 37, 38, 39, 40, 6, 41]) (fun _ => rfl) (fun _ => rfl) rfl (by omega) ?_ ⟨⟨_, rfl, rfl⟩, trivial⟩ ⟨⟨_, rfl, rfl, rfl, (by first |  rfl | exact fzP_pure (ints_pure _) | exact fzP_pure (u64s_pure _) | exact fzP_pure (by assumption) | exact fzP_pure (by first | (simp [pureE, pure1, ints]; done) | (simp_all [pe_int, pe_bool, pe_str, pe_sl, pe_agg, p1_int, p1_bool, p1_str, p1_sl]; done)))⟩, ⟨_, rfl, rfl, rfl, (by first |  rfl | exact fzP_pure (ints_pure _) | exact fzP_pure (u64s_pure _) | exact fzP_pure (by assumption) | exact fzP_pure (by first | (simp [pureE, pure1, ints]; done) | (simp_all [pe_int, pe_bool, pe_str, pe_sl, pe_agg, p1_int, p1_bool, p1_str, p1_sl]; done)))⟩, ⟨_, rfl, rfl, rfl, (by first |  rfl | exact fzP_pure (ints_pure _) | exact fzP_pure (u64s_pure _) | exact fzP_pure (by assumption) | exact fzP_pure (by first | (simp [pureE, pure1, ints]; done) | (simp_all [pe_int, pe_bool, pe_str, pe_sl, pe_agg, p1_int, p1_bool, p1_str, p1_sl]; done)))⟩, trivial⟩ ?_; rotate_left; rintro k hx; try dsimp only at hx)
      | (refine loopV_normal ((k + 1)) ?_ ⟨⟨_, rfl, rfl⟩, trivial⟩ ⟨⟨_, rfl, rfl, rfl, (by first |  rfl | exact fzP_pure (ints_pure _) | exact fzP_pure (u64s_pure _) | exact fzP_pure (by assumption) | exact fzP_pure (by first | (simp [pureE, pure1, ints]; done) | (simp_all [pe_int, pe_bool, pe_str, pe_sl, pe_agg, p1_int, p1_bool, p1_str, p1_sl]; done)))⟩, ⟨_, rfl, rfl, rfl, (by first |  rfl | exact fzP_pure (ints_pure _) | exact fzP_pure (u64s_pure _) | exact fzP_pure (by assumption) | exact fzP_pure (by first | (simp [pureE, pure1, ints]; done) | (simp_all [pe_int, pe_bool, pe_str, pe_sl, pe_agg, p1_int, p1_bool, p1_str, p1_sl]; done)))⟩, ⟨_, rfl, rfl, rfl, (by first |  rfl | exact fzP_pure (ints_pure _) | exact fzP_pure (u64s_pure _) | exact fzP_pure (by assumption) | exact fzP_pure (by first | (simp [pureE, pure1, ints]; done) | (simp_all [pe_int, pe_bool, pe_str, pe_sl, pe_agg, p1_int, p1_bool, p1_str, p1_sl]; done)))⟩, trivial⟩ ?_ ?_; repeat (first | exact only_refl | refine only_put rfl ?_ | refine only_less rfl ?_ | refine only_ov rfl ?_))
      | ((with_reducible apply n_val); rfl; rfl)
      | ((with_reducible apply n_new); rfl; (first | (simp only [hn0, hn1, hn2, hn3, hn4, hn5, List.length_cons, List.length_nil, Nat.reduceAdd, Nat.zero_add]; done) | (simp only [hn0, hn1, hn2, hn3, hn4, hn5, List.length_cons, List.length_nil, Nat.reduceAdd, Nat.zero_add]; rfl) | rfl); rfl)
      | ((with_reducible apply n_call (f := 56)); rfl; rfl; exact p_envs_get ..)
      | (with_reducible refine condT_split (fun h => ?_) (fun h => ?_))
      | ((with_reducible apply fnQ_told_ret); rfl)
      | ((with_reducible apply fnQ_ret_soft); rfl; rfl)
    all_goals (try dsimp only at *)
    all_goals (try simp only [decide_eq_true_eq, decide_eq_false_iff_not, Bool.not_eq_true', Bool.not_eq_false', eGetS_on] at *)
    · refine congrArg PV.bool (Eq.symm ?_)
      rw [List.all_eq_false]
      exact ⟨k, List.mem_range.2 (by omega), by rw [h]; simp⟩
    · omega
    · refine ⟨by omega, fun j hj => ?_⟩
      by_cases e : j = k
      · subst e; assumption
      · exact hx.2 j (by omega)
    · rw [List.all_eq_true.2 (fun j hj => hx.2 j (by have := List.mem_range.1 hj; omega))]
    · exact ⟨by omega, fun j hj => absurd hj (by omega)⟩
end

end Go.Vm
