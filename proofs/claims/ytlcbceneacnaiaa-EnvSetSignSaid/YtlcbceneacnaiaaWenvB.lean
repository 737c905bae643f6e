/- Laid. -/
import Derived.Test.YtlcbceneacnaiaaCenvB
import Derived.Test.YtlcbceneacnaiaaWenvA
/- Walks. -/
set_option maxRecDepth 100000
set_option linter.unusedSimpArgs false
set_option linter.unusedVariables false
namespace Go.Vm
open Go

section
variable {gl : Nat → Option PV}
set_option maxHeartbeats 4000000
theorem mul_small (n : Nat) (hn : n < 65) : Pure Go.Proofs.Try.prog gl 78 [.int .u64 1, .int .u64 (n : Int)] (.tup [.int .u64 0, .int .u64 (n : Int)]) := by
  have hT : TabOk Go.Proofs.Try.prog [(78, c78), (81, c81)] := ⟨⟨_, b78⟩, by kernel_rfl, ⟨_, b81⟩, by kernel_rfl, trivial⟩
  have hall : ((List.range 65).all fun n => match clc [(78, c78), (81, c81)] gl 1 3 78 [.int .u64 1, .int .u64 (n : Int)] with
    | some (.tup [.int .u64 a, .int .u64 b]) => a == 0 && b == (n : Int)
    | _ => false) = true := by kernel_rfl
  have h := List.all_eq_true.1 hall n (List.mem_range.2 hn)
  split at h
  · rename_i a b heq
    simp only [Bool.and_eq_true, beq_iff_eq] at h
    obtain ⟨rfl, rfl⟩ := h
    exact clc_sound hmix hT heq
  · cases h
theorem p_repeat_flat (v : V3) (N : Nat) (hN : N < 65) : Pure Go.Proofs.Try.prog gl 71 [.sl [pv v], .int .i64 (N : Int)] (.sl ((List.replicate N v).map pv)) := by
  have hR : (List.replicate N v).length = (List.replicate N V3.bot).length := by simp
  have hl : ∀ n, (mixL (List.replicate N v) (List.replicate N V3.bot) n).length = N := fun n => by rw [mixL_length hR]; simp
  refine Pure.fn hmix b71 ?_
  repeat' first
    | with_reducible refine tr_seq ?_
    | ((with_reducible refine tr_region_f ?_ ?_); kernel_rfl)
    | ((with_reducible refine tr_region_t ?_ ?_ ?_); kernel_rfl; kernel_rfl)
    | with_reducible refine n_nil ?_
    | exact ⟨rfl, rfl⟩
    | with_reducible refine seqQ_normal ?_
    | with_reducible refine seqQ_exit ?_
    | with_reducible refine seqQ_ret ?_
    | with_reducible refine blkQ_normal ?_
    | with_reducible refine blkQ_exit ?_
    | with_reducible refine blkQ_ret ?_
    | ((with_reducible refine blkQ_exit_ne ?_ ?_); rfl)
    | with_reducible refine tr_block ?_
    | with_reducible refine tr_skip ?_
    | with_reducible refine tr_exit ?_
    | with_reducible refine tr_ret ?_
    | ((with_reducible apply tr_cond_e); rfl)
    | with_reducible refine condT_t ?_
    | with_reducible refine condT_f ?_
    | ((with_reducible apply n_and); rfl; rfl; intro h)
    | ((with_reducible apply n_or); rfl; rfl; intro h)
    | with_reducible refine loopV_exit ?_
    | with_reducible refine loopV_ret ?_
    | (first | ((with_reducible apply n_bin); rfl; rfl; focus ((with_reducible (first | apply b_add | apply b_sub)) <;> first | omega | (simp only [decide_eq_true_eq, decide_eq_false_iff_not, Bool.or_eq_false_iff, Bool.not_eq_true', Bool.not_eq_false', Bool.not_true, Bool.not_false, ints_length, List.length_map, tab_length] at *; omega))) | ((with_reducible apply n_max); rfl; rfl) | ((with_reducible apply n_min); rfl; rfl))
    | ((with_reducible apply n_conv); rfl; (first | exact wrap_u64_of (by omega) | exact wrap_u64_of (by decide) | exact wrap_i64_of (by omega)))
    | ((with_reducible apply n_mk_vals (f := pv) V3.bot); rfl; rfl; rfl; rfl; (first | omega | (simp only [decide_eq_true_eq, decide_eq_false_iff_not, Bool.or_eq_false_iff, Bool.not_eq_true', Bool.not_eq_false', Bool.not_true, Bool.not_false, ints_length, List.length_map, tab_length] at *; omega)))
    | ((with_reducible apply n_slice_lo0); rfl; rfl; rfl; (first | omega | (simp only [decide_eq_true_eq, decide_eq_false_iff_not, Bool.or_eq_false_iff, Bool.not_eq_true', Bool.not_eq_false', Bool.not_true, Bool.not_false, ints_length, List.length_map, tab_length] at *; omega)))
    | ((with_reducible apply n_slice_hi); rfl; rfl; rfl; (first | omega | (simp only [decide_eq_true_eq, decide_eq_false_iff_not, Bool.or_eq_false_iff, Bool.not_eq_true', Bool.not_eq_false', Bool.not_true, Bool.not_false, ints_length, List.length_map, tab_length] at *; omega)))
    | ((with_reducible apply n_copy_vals (f := pv) (ys := [v]) (m := min 1 N)); rfl; rfl; rfl; rfl; exact (fun _ => rfl); rfl; exact (by simp))
    | ((with_reducible apply n_copy_vals (f := pv) (ys := (mixL (List.replicate N v) (List.replicate N V3.bot) n).take n) (m := min n (N - n))); rfl; rfl; rfl; exact elems_head rfl (by rw [hl]; exact hx.1); exact (fun _ => rfl); exact (by rw [List.length_take, hl]; simp only [Int.toNat_natCast]; omega); exact (by rw [hl]; simp only [Int.toNat_natCast]; omega))
    | ((with_reducible apply fnQ_ret_vals (f := pv)); rfl; rfl; exact (fun _ => rfl); exact (by rw [hl]; simp))
    | (refine tr_loop_v (α := Nat) 1 (fun | n => [(8, some (.int .i64 (n : Int))), (34, none), (35, none), (36, none), (37, none), (38, none), (39, none), (40, none), (41, none), (42, none), (43, none), (44, none), (45, none), (46, none)]) (fun | n => [some ⟨0, 2, (mixL (List.replicate N v) (List.replicate N V3.bot) n).map pv⟩]) (fun | n => n ≤ N ∧ (0 < N → 0 < n)) (fun | n => N - n) (min 1 N) (ks := [8, 34, 35, 36, 37, 38, 39, 40, 41, 42, 43, 44, 45, 46]) (fun _ => rfl) (fun _ => rfl) rfl (by omega) ?_ ⟨⟨_, rfl, rfl⟩, trivial⟩ ⟨⟨_, rfl, rfl, rfl, (by first | exact fzP_vals (fun _ => rfl) (mix_rep (by first | omega | (simp only [decide_eq_true_eq, decide_eq_false_iff_not, Bool.or_eq_false_iff, Bool.not_eq_true', Bool.not_eq_false', Bool.not_true, Bool.not_false, ints_length, List.length_map, tab_length] at *; omega)) (by first | omega | (simp only [decide_eq_true_eq, decide_eq_false_iff_not, Bool.or_eq_false_iff, Bool.not_eq_true', Bool.not_eq_false', Bool.not_true, Bool.not_false, ints_length, List.length_map, tab_length] at *; omega))) | exact fzP_vals (fun _ => rfl) mix_first |  rfl | exact fzP_pure (ints_pure _) | exact fzP_pure (u64s_pure _) | exact fzP_pure (by assumption) | exact fzP_pure (by first | (simp [pureE, pure1, ints]; done) | (simp_all [pe_int, pe_bool, pe_str, pe_sl, pe_agg, p1_int, p1_bool, p1_str, p1_sl]; done)))⟩, trivial⟩ ?_; rotate_left; rintro n hx; try dsimp only at hx)
    | (refine loopV_normal ((n + min n (N - n))) ?_ ⟨⟨_, rfl, rfl⟩, trivial⟩ ⟨⟨_, rfl, rfl, rfl, (by first | exact fzP_vals (fun _ => rfl) (mix_rep (by first | omega | (simp only [decide_eq_true_eq, decide_eq_false_iff_not, Bool.or_eq_false_iff, Bool.not_eq_true', Bool.not_eq_false', Bool.not_true, Bool.not_false, ints_length, List.length_map, tab_length] at *; omega)) (by first | omega | (simp only [decide_eq_true_eq, decide_eq_false_iff_not, Bool.or_eq_false_iff, Bool.not_eq_true', Bool.not_eq_false', Bool.not_true, Bool.not_false, ints_length, List.length_map, tab_length] at *; omega))) | exact fzP_vals (fun _ => rfl) mix_first |  rfl | exact fzP_pure (ints_pure _) | exact fzP_pure (u64s_pure _) | exact fzP_pure (by assumption) | exact fzP_pure (by first | (simp [pureE, pure1, ints]; done) | (simp_all [pe_int, pe_bool, pe_str, pe_sl, pe_agg, p1_int, p1_bool, p1_str, p1_sl]; done)))⟩, trivial⟩ ?_ ?_; repeat (first | exact only_refl | refine only_put rfl ?_ | refine only_less rfl ?_ | refine only_ov rfl ?_))
    | ((with_reducible apply n_val); rfl; rfl)
    | ((with_reducible apply n_nope); (first | omega | (simp only [decide_eq_true_eq, decide_eq_false_iff_not, Bool.or_eq_true, Bool.and_eq_true, Bool.or_eq_false_iff, Bool.not_eq_true', Bool.not_eq_false'] at *; omega) | (simp_all; done) | (simp_all; omega)))
    | ((with_reducible apply n_call (f := 78)); rfl; rfl; exact mul_small N hN)
    | (with_reducible refine condT_split (fun h => ?_) (fun h => ?_))
    | ((with_reducible apply fnQ_told_ret); rfl)
    | ((with_reducible apply fnQ_ret_soft); rfl; rfl)
  all_goals (try dsimp only at *)
  all_goals (try simp only [decide_eq_true_eq, decide_eq_false_iff_not, Int.toNat_natCast] at *)
  · omega
  · omega
  · rw [mixL_full (by simp; omega) (by simp; omega)]
  · omega
theorem p_envf_all (n k c : Int) : Pure Go.Proofs.Try.prog gl 54 [(.agg [.fn 17 [], .fn 64 []]), .int .i64 n, .agg [.int .i64 k, .int .i64 c]] (eOut pv (eAll n (toV k c))) := by
  have hr := p_repeat_flat (gl := gl) (toV k c) (max 0 (min n 64)).toNat (by omega)
  refine Pure.fn hmix b54 ?_
  repeat' first
    | with_reducible refine tr_seq ?_
    | ((with_reducible refine tr_region_f ?_ ?_); kernel_rfl)
    | with_reducible refine n_nil ?_
    | with_reducible refine seqQ_normal ?_
    | with_reducible refine seqQ_ret ?_
    | with_reducible refine blkQ_ret ?_
    | with_reducible refine tr_ret ?_
    | ((with_reducible apply n_max_to (c := (((max 0 (min n 64)).toNat : Nat) : Int))); rfl; rfl; omega)
    | (first | ((with_reducible apply n_bin); rfl; rfl; focus ((with_reducible (first | apply b_add | apply b_sub)) <;> first | omega | (simp only [decide_eq_true_eq, decide_eq_false_iff_not, Bool.or_eq_false_iff, Bool.not_eq_true', Bool.not_eq_false', Bool.not_true, Bool.not_false, ints_length, List.length_map, tab_length] at *; omega))) | ((with_reducible apply n_max); rfl; rfl) | ((with_reducible apply n_min); rfl; rfl))
    | ((with_reducible apply n_call (f := 71)); rfl; rfl; exact hr)
    | ((with_reducible apply n_val); rfl; rfl)
    | ((with_reducible apply n_new); rfl; (first | (simp only [hn0, hn1, hn2, hn3, hn4, hn5, List.length_cons, List.length_nil, Nat.reduceAdd, Nat.zero_add]; done) | (simp only [hn0, hn1, hn2, hn3, hn4, hn5, List.length_cons, List.length_nil, Nat.reduceAdd, Nat.zero_add]; rfl) | rfl); rfl)
    | ((with_reducible apply n_store); rfl; rfl; rfl; rfl; rfl)
    | ((with_reducible apply n_call (f := 66)); rfl; rfl; exact p_envf_sane ..)
    | ((with_reducible apply fnQ_told_ret); rfl)
    | ((with_reducible apply fnQ_ret_soft); rfl; rfl)
  rfl
theorem p_env_Flats (n k c : Int) : Pure Go.Proofs.Try.prog gl 27 [.int .i64 n, .agg [.int .i64 k, .int .i64 c]] (eOut pv (eAll n (toV k c))) := by
  refine Pure.fn hmix b27 ?_
  repeat' first
    | with_reducible refine tr_seq ?_
    | ((with_reducible refine tr_region_f ?_ ?_); kernel_rfl)
    | ((with_reducible refine tr_region_t ?_ ?_ ?_); kernel_rfl; kernel_rfl)
    | with_reducible refine n_nil ?_
    | with_reducible refine seqQ_normal ?_
    | with_reducible refine seqQ_ret ?_
    | with_reducible refine blkQ_ret ?_
    | with_reducible refine tr_ret ?_
    | ((with_reducible apply n_val); rfl; rfl)
    | ((with_reducible apply n_new); rfl; (first | (simp only [hn0, hn1, hn2, hn3, hn4, hn5, List.length_cons, List.length_nil, Nat.reduceAdd, Nat.zero_add]; done) | (simp only [hn0, hn1, hn2, hn3, hn4, hn5, List.length_cons, List.length_nil, Nat.reduceAdd, Nat.zero_add]; rfl) | rfl); rfl)
    | ((with_reducible apply n_store); rfl; rfl; rfl; rfl; rfl)
    | ((with_reducible apply n_call (f := 41)); rfl; rfl; exact p_env_flats)
    | ((with_reducible apply n_call (f := 54)); rfl; rfl; exact p_envf_all ..)
    | ((with_reducible apply fnQ_told_ret); rfl)
    | ((with_reducible apply fnQ_ret_soft); rfl; rfl)
  rfl
theorem p_env_GetFlat {p : PV} {e : Option (List V3)} (i : Int) (h : RepE pq fq p e) : Pure Go.Proofs.Try.prog gl 16 [p, .int .i64 i] (pv (eGet .bot e i)) := by
  obtain ⟨on, l, rfl, rfl, hl⟩ := h
  refine Pure.fn hmix b16 ?_
  repeat' first
    | with_reducible refine tr_seq ?_
    | ((with_reducible refine tr_region_f ?_ ?_); kernel_rfl)
    | ((with_reducible refine tr_region_t ?_ ?_ ?_); kernel_rfl; kernel_rfl)
    | with_reducible refine n_nil ?_
    | with_reducible refine seqQ_normal ?_
    | with_reducible refine seqQ_ret ?_
    | with_reducible refine blkQ_ret ?_
    | with_reducible refine tr_ret ?_
    | ((with_reducible apply n_val); rfl; rfl)
    | ((with_reducible apply n_new); rfl; (first | (simp only [hn0, hn1, hn2, hn3, hn4, hn5, List.length_cons, List.length_nil, Nat.reduceAdd, Nat.zero_add]; done) | (simp only [hn0, hn1, hn2, hn3, hn4, hn5, List.length_cons, List.length_nil, Nat.reduceAdd, Nat.zero_add]; rfl) | rfl); rfl)
    | ((with_reducible apply n_store); rfl; rfl; rfl; rfl; rfl)
    | ((with_reducible apply n_call (f := 41)); rfl; rfl; exact p_env_flats)
    | ((with_reducible apply n_call (f := 45)); rfl; rfl; exact p_envf_get ..)
    | ((with_reducible apply fnQ_told_ret); rfl)
    | ((with_reducible apply fnQ_ret_soft); rfl; rfl)
  rfl
theorem p_env_SetFlat {p : PV} {e : Option (List V3)} (i k c : Int) (h : RepE pq fq p e) : Pure Go.Proofs.Try.prog gl 15 [p, .int .i64 i, .agg [.int .i64 k, .int .i64 c]] (eOut pv (eSet e i (toV k c))) := by
  obtain ⟨on, l, rfl, rfl, hl⟩ := h
  refine Pure.fn hmix b15 ?_
  repeat' first
    | with_reducible refine tr_seq ?_
    | ((with_reducible refine tr_region_f ?_ ?_); kernel_rfl)
    | ((with_reducible refine tr_region_t ?_ ?_ ?_); kernel_rfl; kernel_rfl)
    | with_reducible refine n_nil ?_
    | with_reducible refine seqQ_normal ?_
    | with_reducible refine seqQ_ret ?_
    | with_reducible refine blkQ_ret ?_
    | with_reducible refine tr_ret ?_
    | ((with_reducible apply n_val); rfl; rfl)
    | ((with_reducible apply n_new); rfl; (first | (simp only [hn0, hn1, hn2, hn3, hn4, hn5, List.length_cons, List.length_nil, Nat.reduceAdd, Nat.zero_add]; done) | (simp only [hn0, hn1, hn2, hn3, hn4, hn5, List.length_cons, List.length_nil, Nat.reduceAdd, Nat.zero_add]; rfl) | rfl); rfl)
    | ((with_reducible apply n_store); rfl; rfl; rfl; rfl; rfl)
    | ((with_reducible apply n_call (f := 41)); rfl; rfl; exact p_env_flats)
    | ((with_reducible apply n_call (f := 44)); rfl; rfl; exact p_envf_set _ _ _ _ _ (by omega))
    | ((with_reducible apply fnQ_told_ret); rfl)
    | ((with_reducible apply fnQ_ret_soft); rfl; rfl)
  rfl
theorem p_env_JoinFlat {p q : PV} {e f : Option (List V3)} (h : RepE pq fq p e) (k : RepE pq fq q f) : Pure Go.Proofs.Try.prog gl 11 [p, q] (eOut pv (eJoin .bot V3.join e f)) := by
  obtain ⟨on, l, rfl, rfl, hl⟩ := h
  obtain ⟨on', l', rfl, rfl, hl'⟩ := k
  refine Pure.fn hmix b11 ?_
  repeat' first
    | with_reducible refine tr_seq ?_
    | ((with_reducible refine tr_region_f ?_ ?_); kernel_rfl)
    | ((with_reducible refine tr_region_t ?_ ?_ ?_); kernel_rfl; kernel_rfl)
    | with_reducible refine n_nil ?_
    | with_reducible refine seqQ_normal ?_
    | with_reducible refine seqQ_ret ?_
    | with_reducible refine blkQ_ret ?_
    | with_reducible refine tr_ret ?_
    | ((with_reducible apply n_val); rfl; rfl)
    | ((with_reducible apply n_new); rfl; (first | (simp only [hn0, hn1, hn2, hn3, hn4, hn5, List.length_cons, List.length_nil, Nat.reduceAdd, Nat.zero_add]; done) | (simp only [hn0, hn1, hn2, hn3, hn4, hn5, List.length_cons, List.length_nil, Nat.reduceAdd, Nat.zero_add]; rfl) | rfl); rfl)
    | ((with_reducible apply n_store); rfl; rfl; rfl; rfl; rfl)
    | ((with_reducible apply n_call (f := 41)); rfl; rfl; exact p_env_flats)
    | ((with_reducible apply n_call (f := 42)); rfl; rfl; exact p_envf_joined _ _ _ _ (by omega) (by omega))
    | ((with_reducible apply fnQ_told_ret); rfl)
    | ((with_reducible apply fnQ_ret_soft); rfl; rfl)
  rfl
theorem p_env_LeqFlat {p q : PV} {e f : Option (List V3)} (h : RepE pq fq p e) (k : RepE pq fq q f) : Pure Go.Proofs.Try.prog gl 12 [p, q] (.bool (eLeq .bot V3.leq e f)) := by
  obtain ⟨on, l, rfl, rfl, hl⟩ := h
  obtain ⟨on', l', rfl, rfl, hl'⟩ := k
  refine Pure.fn hmix b12 ?_
  repeat' first
    | with_reducible refine tr_seq ?_
    | ((with_reducible refine tr_region_f ?_ ?_); kernel_rfl)
    | ((with_reducible refine tr_region_t ?_ ?_ ?_); kernel_rfl; kernel_rfl)
    | with_reducible refine n_nil ?_
    | with_reducible refine seqQ_normal ?_
    | with_reducible refine seqQ_ret ?_
    | with_reducible refine blkQ_ret ?_
    | with_reducible refine tr_ret ?_
    | ((with_reducible apply n_val); rfl; rfl)
    | ((with_reducible apply n_new); rfl; (first | (simp only [hn0, hn1, hn2, hn3, hn4, hn5, List.length_cons, List.length_nil, Nat.reduceAdd, Nat.zero_add]; done) | (simp only [hn0, hn1, hn2, hn3, hn4, hn5, List.length_cons, List.length_nil, Nat.reduceAdd, Nat.zero_add]; rfl) | rfl); rfl)
    | ((with_reducible apply n_call (f := 41)); rfl; rfl; exact p_env_flats)
    | ((with_reducible apply n_call (f := 43)); rfl; rfl; exact p_envf_below _ _ _ _ (by omega) (by omega))
    | ((with_reducible apply fnQ_told_ret); rfl)
    | ((with_reducible apply fnQ_ret_soft); rfl; rfl)
  rfl
end

end Go.Vm
