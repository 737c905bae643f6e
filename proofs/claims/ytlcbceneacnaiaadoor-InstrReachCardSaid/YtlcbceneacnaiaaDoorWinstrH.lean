/- Laid. -/
import Derived.Test.YtlcbceneacnaiaaDoorCinstrH
import Derived.Test.YtlcbceneacnaiaaDoorWinstrG
/- Walks. -/
set_option maxRecDepth 100000
set_option linter.unusedSimpArgs false
set_option linter.unusedVariables false
namespace Go.Vm
open Go

set_option maxHeartbeats 4000000
theorem l_InstrLive (m : Int) (ws : List Nat) (i : In) (k : Int) (hw : W64 ws) : Pure Go.Proofs.Tryd.prog glD 3 [sv m ws, pI i, .int .i64 k] (.bool true) := by
  have hR := rep_sv m ws hw
  have hS := p_bits_Sane (gl := glD) m ws hw
  have hn : bSane m ws = true → nN m ws = m := sane_nN
  have hz := hR.ok
  have hu := usesI_len i
  generalize bSane m ws = q at *
  generalize nN m ws = M at *
  generalize vN m ws = a at *
  refine Pure.fn hmix b3 ?_
  repeat' first
    | with_reducible refine tr_seq ?_
    | ((with_reducible refine tr_region_f ?_ ?_); kernel_rfl)
    | ((with_reducible refine tr_region_t ?_ ?_ ?_); kernel_rfl; kernel_rfl)
    | with_reducible refine n_nil ?_
    | exact ⟨rfl, rfl⟩
    | with_reducible refine seqQ_normal ?_
    | with_reducible refine seqQ_exit ?_
    | with_reducible refine seqQ_ret ?_
    | with_reducible refine blkQ_normal ?_
    | with_reducible refine blkQ_exit ?_
    | with_reducible refine blkQ_ret ?_
    | ((with_reducible refine blkQ_exit_ne ?_ ?_); rfl)
    | with_reducible refine tr_block ?_
    | with_reducible refine tr_skip ?_
    | with_reducible refine tr_exit ?_
    | with_reducible refine tr_ret ?_
    | ((with_reducible apply tr_cond_e); rfl)
    | with_reducible refine condT_t ?_
    | with_reducible refine condT_f ?_
    | ((with_reducible apply n_and); rfl; rfl; intro h)
    | ((with_reducible apply n_or); rfl; rfl; intro h)
    | with_reducible refine loopV_exit ?_
    | with_reducible refine loopV_ret ?_
    | refine n_call (f := 9) rfl rfl hS ?_
    | ((with_reducible apply n_idx_ints); rfl; rfl; first | omega | decide | (simp only [decide_eq_true_eq, decide_eq_false_iff_not, Bool.or_eq_false_iff, Bool.not_eq_true', Bool.not_eq_false', Bool.not_true, Bool.not_false, ints_length, List.length_map, tab_length] at *; omega))
    | (first | ((with_reducible apply n_bin); rfl; rfl; focus ((with_reducible (first | apply b_add | apply b_sub)) <;> first | omega | decide | (simp only [decide_eq_true_eq, decide_eq_false_iff_not, Bool.or_eq_false_iff, Bool.not_eq_true', Bool.not_eq_false', Bool.not_true, Bool.not_false, ints_length, List.length_map, tab_length] at *; omega))) | ((with_reducible apply n_max); rfl; rfl) | ((with_reducible apply n_min); rfl; rfl))
    | (refine tr_loop_v (α := Bool × Int) 4 (fun | (r, n) => [(10, some (.bool r)), (12, some (.int .i64 n)), (32, none), (33, none), (34, none), (35, none), (38, none), (39, none), (40, none), (41, none), (42, none), (43, none), (44, none), (45, none), (46, none), (36, none), (37, none)]) (fun | (r, n) => [some ⟨0, 2, [sv m ws]⟩, some ⟨0, 11, [pI i]⟩, some ⟨0, 2, [sv m ws]⟩, some ⟨0, 2, [mk M (liveV M a i)]⟩]) (fun | (r, n) => 0 ≤ n ∧ n ≤ (usesI i).length ∧ r = ((usesI i).take n.toNat).contains k) (fun | (r, n) => ((usesI i).length - n).toNat) ((false, 0)) (ks := [10, 12, 32, 33, 34, 35, 38, 39, 40, 41, 42, 43, 44, 45, 46, 36, 37]) (fun _ => rfl) (fun _ => rfl) rfl (by omega) ?_ ⟨⟨_, rfl, rfl⟩, ⟨_, rfl, rfl⟩, trivial⟩ ⟨⟨_, rfl, rfl, rfl, (by first |  rfl | exact fzP_pure (ints_pure _) | exact fzP_pure (u64s_pure _) | exact fzP_pure (by assumption) | exact fzP_pure (by first | (simp [pureE, pure1, ints]; done) | (simp_all [pe_int, pe_bool, pe_str, pe_sl, pe_agg, p1_int, p1_bool, p1_str, p1_sl]; done)))⟩, ⟨_, rfl, rfl, rfl, (by first |  rfl | exact fzP_pure (ints_pure _) | exact fzP_pure (u64s_pure _) | exact fzP_pure (by assumption) | exact fzP_pure (by first | (simp [pureE, pure1, ints]; done) | (simp_all [pe_int, pe_bool, pe_str, pe_sl, pe_agg, p1_int, p1_bool, p1_str, p1_sl]; done)))⟩, ⟨_, rfl, rfl, rfl, (by first |  rfl | exact fzP_pure (ints_pure _) | exact fzP_pure (u64s_pure _) | exact fzP_pure (by assumption) | exact fzP_pure (by first | (simp [pureE, pure1, ints]; done) | (simp_all [pe_int, pe_bool, pe_str, pe_sl, pe_agg, p1_int, p1_bool, p1_str, p1_sl]; done)))⟩, ⟨_, rfl, rfl, rfl, (by first |  rfl | exact fzP_pure (ints_pure _) | exact fzP_pure (u64s_pure _) | exact fzP_pure (by assumption) | exact fzP_pure (by first | (simp [pureE, pure1, ints]; done) | (simp_all [pe_int, pe_bool, pe_str, pe_sl, pe_agg, p1_int, p1_bool, p1_str, p1_sl]; done)))⟩, trivial⟩ ?_; rotate_left; rintro ⟨r, n⟩ hx; try dsimp only at hx)
    | ((first | (refine loopV_normal ((r || decide ((usesI i).getD n.toNat 0 = k), n + 1)) ?_ ⟨⟨_, rfl, rfl⟩, ⟨_, rfl, rfl⟩, trivial⟩ ⟨⟨_, rfl, rfl, rfl, (by first |  rfl | exact fzP_pure (ints_pure _) | exact fzP_pure (u64s_pure _) | exact fzP_pure (by assumption) | exact fzP_pure (by first | (simp [pureE, pure1, ints]; done) | (simp_all [pe_int, pe_bool, pe_str, pe_sl, pe_agg, p1_int, p1_bool, p1_str, p1_sl]; done)))⟩, ⟨_, rfl, rfl, rfl, (by first |  rfl | exact fzP_pure (ints_pure _) | exact fzP_pure (u64s_pure _) | exact fzP_pure (by assumption) | exact fzP_pure (by first | (simp [pureE, pure1, ints]; done) | (simp_all [pe_int, pe_bool, pe_str, pe_sl, pe_agg, p1_int, p1_bool, p1_str, p1_sl]; done)))⟩, ⟨_, rfl, rfl, rfl, (by first |  rfl | exact fzP_pure (ints_pure _) | exact fzP_pure (u64s_pure _) | exact fzP_pure (by assumption) | exact fzP_pure (by first | (simp [pureE, pure1, ints]; done) | (simp_all [pe_int, pe_bool, pe_str, pe_sl, pe_agg, p1_int, p1_bool, p1_str, p1_sl]; done)))⟩, ⟨_, rfl, rfl, rfl, (by first |  rfl | exact fzP_pure (ints_pure _) | exact fzP_pure (u64s_pure _) | exact fzP_pure (by assumption) | exact fzP_pure (by first | (simp [pureE, pure1, ints]; done) | (simp_all [pe_int, pe_bool, pe_str, pe_sl, pe_agg, p1_int, p1_bool, p1_str, p1_sl]; done)))⟩, trivial⟩ ?_ ?_)); repeat (first | exact only_refl | refine only_put rfl ?_ | refine only_less rfl ?_ | refine only_ov rfl ?_))
    | ((with_reducible apply n_val); rfl; rfl)
    | ((with_reducible apply n_new); rfl; (first | (simp only [hn0, hn1, hn2, hn3, hn4, hn5, List.length_cons, List.length_nil, Nat.reduceAdd, Nat.zero_add]; done) | (simp only [hn0, hn1, hn2, hn3, hn4, hn5, List.length_cons, List.length_nil, Nat.reduceAdd, Nat.zero_add]; rfl) | rfl); rfl)
    | ((with_reducible apply n_store); rfl; rfl; rfl; rfl; rfl)
    | ((with_reducible apply n_call (f := 7)); rfl; rfl; exact p_law05_awake)
    | ((with_reducible apply n_call (f := 8)); rfl; rfl; exact p_law05_ours ..)
    | ((with_reducible apply n_call (f := 10)); rfl; rfl; exact r_Live (by first | exact hR | (refine rep_mk ?_; (repeat (first | assumption | exact ok_zero (by omega) | exact ok_ofV _ _ (by assumption) | apply ok_live | apply ok_reach | apply ok_or | apply ok_minus | apply ok_and | apply ok_with | apply ok_wout)))) _)
    | ((with_reducible apply n_call (f := 11)); rfl; rfl; exact p_Uses ..)
    | ((with_reducible apply n_call (f := 13)); rfl; rfl; exact p_Def ..)
    | ((with_reducible apply n_call (f := 12)); rfl; rfl; exact r_bits_Has (by first | exact hR | (refine rep_mk ?_; (repeat (first | assumption | exact ok_zero (by omega) | exact ok_ofV _ _ (by assumption) | apply ok_live | apply ok_reach | apply ok_or | apply ok_minus | apply ok_and | apply ok_with | apply ok_wout)))) _)
    | ((with_reducible apply n_call (f := 14)); rfl; rfl; exact r_bits_Same (by first | exact hR | (refine rep_mk ?_; (repeat (first | assumption | exact ok_zero (by omega) | exact ok_ofV _ _ (by assumption) | apply ok_live | apply ok_reach | apply ok_or | apply ok_minus | apply ok_and | apply ok_with | apply ok_wout)))) (by first | exact hR | (refine rep_mk ?_; (repeat (first | assumption | exact ok_zero (by omega) | exact ok_ofV _ _ (by assumption) | apply ok_live | apply ok_reach | apply ok_or | apply ok_minus | apply ok_and | apply ok_with | apply ok_wout)))))
    | (with_reducible refine condT_split (fun h => ?_) (fun h => ?_))
    | ((with_reducible apply fnQ_told_ret); rfl)
    | ((with_reducible apply fnQ_ret_soft); rfl; rfl)
  all_goals (try dsimp only at *)
  all_goals (try simp only [decide_eq_true_eq, decide_eq_false_iff_not, ints_length] at *)
  · omega
  · obtain ⟨h1, h2, h3⟩ := hx
    rw [contains_take h1 h, h3]
    exact ⟨by omega, by omega, rfl⟩
  · obtain ⟨h1, h2, h3⟩ := hx
    have hq : q = true := by
      cases q with
      | true => rfl
      | false => simp at *
    rw [take_all (by omega)] at h3
    rw [← hn hq, live_law1, live_law2, h3, show (k != defI i) = decide (k ≠ defI i) by rw [decide_not]; rfl]
    simp
  · exact ⟨by omega, by omega, rfl⟩
theorem l_InstrReach (m : Int) (ws : List Nat) (i : In) (ids : List Int) (k : Int) (hw : W64 ws) : Pure Go.Proofs.Tryd.prog glD 4 [sv m ws, pI i, .sl (ints ids), .int .i64 k] (.bool true) := by
  have hR := rep_sv m ws hw
  have hS := p_bits_Sane (gl := glD) m ws hw
  have hn : bSane m ws = true → nN m ws = m := sane_nN
  have hz := hR.ok
  generalize bSane m ws = q at *
  generalize nN m ws = M at *
  generalize vN m ws = a at *
  refine Pure.fn hmix b4 ?_
  repeat' first
    | with_reducible refine tr_seq ?_
    | ((with_reducible refine tr_region_f ?_ ?_); kernel_rfl)
    | ((with_reducible refine tr_region_t ?_ ?_ ?_); kernel_rfl; kernel_rfl)
    | with_reducible refine n_nil ?_
    | exact ⟨rfl, rfl⟩
    | with_reducible refine seqQ_normal ?_
    | with_reducible refine seqQ_exit ?_
    | with_reducible refine seqQ_ret ?_
    | with_reducible refine blkQ_normal ?_
    | with_reducible refine blkQ_exit ?_
    | with_reducible refine blkQ_ret ?_
    | ((with_reducible refine blkQ_exit_ne ?_ ?_); rfl)
    | with_reducible refine tr_block ?_
    | with_reducible refine tr_skip ?_
    | with_reducible refine tr_exit ?_
    | with_reducible refine tr_ret ?_
    | ((with_reducible apply tr_cond_e); rfl)
    | with_reducible refine condT_t ?_
    | with_reducible refine condT_f ?_
    | ((with_reducible apply n_and); rfl; rfl; intro h)
    | ((with_reducible apply n_or); rfl; rfl; intro h)
    | with_reducible refine loopV_exit ?_
    | with_reducible refine loopV_ret ?_
    | refine n_call (f := 9) rfl rfl hS ?_
    | ((with_reducible apply n_idx_ints); rfl; rfl; first | omega | decide | (simp only [decide_eq_true_eq, decide_eq_false_iff_not, Bool.or_eq_false_iff, Bool.not_eq_true', Bool.not_eq_false', Bool.not_true, Bool.not_false, ints_length, List.length_map, tab_length] at *; omega))
    | (first | ((with_reducible apply n_bin); rfl; rfl; focus ((with_reducible (first | apply b_add | apply b_sub)) <;> first | omega | decide | (simp only [decide_eq_true_eq, decide_eq_false_iff_not, Bool.or_eq_false_iff, Bool.not_eq_true', Bool.not_eq_false', Bool.not_true, Bool.not_false, ints_length, List.length_map, tab_length] at *; omega))) | ((with_reducible apply n_max); rfl; rfl) | ((with_reducible apply n_min); rfl; rfl))
    | (refine tr_loop_v (α := Bool × Int) 5 (fun | (r, n) => [(13, some (.bool r)), (14, some (.int .i64 n)), (50, none), (51, none), (52, none), (53, none), (56, none), (57, none), (58, none), (59, none), (60, none), (61, none), (62, none), (63, none), (64, none), (54, none), (55, none)]) (fun | (r, n) => [some ⟨0, 2, [sv m ws]⟩, some ⟨0, 11, [pI i]⟩, some ⟨0, 2, [sv m ws]⟩, some ⟨0, 2, [mk M (reachV M a i ids)]⟩, some ⟨0, 2, [mk M (reachV M (reachV M a i ids) i ids)]⟩]) (fun | (r, n) => 0 ≤ n ∧ n ≤ ids.length ∧ r = (ids.take n.toNat).contains k) (fun | (r, n) => (ids.length - n).toNat) ((false, 0)) (ks := [13, 14, 50, 51, 52, 53, 56, 57, 58, 59, 60, 61, 62, 63, 64, 54, 55]) (fun _ => rfl) (fun _ => rfl) rfl (by omega) ?_ ⟨⟨_, rfl, rfl⟩, ⟨_, rfl, rfl⟩, trivial⟩ ⟨⟨_, rfl, rfl, rfl, (by first |  rfl | exact fzP_pure (ints_pure _) | exact fzP_pure (u64s_pure _) | exact fzP_pure (by assumption) | exact fzP_pure (by first | (simp [pureE, pure1, ints]; done) | (simp_all [pe_int, pe_bool, pe_str, pe_sl, pe_agg, p1_int, p1_bool, p1_str, p1_sl]; done)))⟩, ⟨_, rfl, rfl, rfl, (by first |  rfl | exact fzP_pure (ints_pure _) | exact fzP_pure (u64s_pure _) | exact fzP_pure (by assumption) | exact fzP_pure (by first | (simp [pureE, pure1, ints]; done) | (simp_all [pe_int, pe_bool, pe_str, pe_sl, pe_agg, p1_int, p1_bool, p1_str, p1_sl]; done)))⟩, ⟨_, rfl, rfl, rfl, (by first |  rfl | exact fzP_pure (ints_pure _) | exact fzP_pure (u64s_pure _) | exact fzP_pure (by assumption) | exact fzP_pure (by first | (simp [pureE, pure1, ints]; done) | (simp_all [pe_int, pe_bool, pe_str, pe_sl, pe_agg, p1_int, p1_bool, p1_str, p1_sl]; done)))⟩, ⟨_, rfl, rfl, rfl, (by first |  rfl | exact fzP_pure (ints_pure _) | exact fzP_pure (u64s_pure _) | exact fzP_pure (by assumption) | exact fzP_pure (by first | (simp [pureE, pure1, ints]; done) | (simp_all [pe_int, pe_bool, pe_str, pe_sl, pe_agg, p1_int, p1_bool, p1_str, p1_sl]; done)))⟩, ⟨_, rfl, rfl, rfl, (by first |  rfl | exact fzP_pure (ints_pure _) | exact fzP_pure (u64s_pure _) | exact fzP_pure (by assumption) | exact fzP_pure (by first | (simp [pureE, pure1, ints]; done) | (simp_all [pe_int, pe_bool, pe_str, pe_sl, pe_agg, p1_int, p1_bool, p1_str, p1_sl]; done)))⟩, trivial⟩ ?_; rotate_left; rintro ⟨r, n⟩ hx; try dsimp only at hx)
    | ((first | (refine loopV_normal ((r || decide (ids.getD n.toNat 0 = k), n + 1)) ?_ ⟨⟨_, rfl, rfl⟩, ⟨_, rfl, rfl⟩, trivial⟩ ⟨⟨_, rfl, rfl, rfl, (by first |  rfl | exact fzP_pure (ints_pure _) | exact fzP_pure (u64s_pure _) | exact fzP_pure (by assumption) | exact fzP_pure (by first | (simp [pureE, pure1, ints]; done) | (simp_all [pe_int, pe_bool, pe_str, pe_sl, pe_agg, p1_int, p1_bool, p1_str, p1_sl]; done)))⟩, ⟨_, rfl, rfl, rfl, (by first |  rfl | exact fzP_pure (ints_pure _) | exact fzP_pure (u64s_pure _) | exact fzP_pure (by assumption) | exact fzP_pure (by first | (simp [pureE, pure1, ints]; done) | (simp_all [pe_int, pe_bool, pe_str, pe_sl, pe_agg, p1_int, p1_bool, p1_str, p1_sl]; done)))⟩, ⟨_, rfl, rfl, rfl, (by first |  rfl | exact fzP_pure (ints_pure _) | exact fzP_pure (u64s_pure _) | exact fzP_pure (by assumption) | exact fzP_pure (by first | (simp [pureE, pure1, ints]; done) | (simp_all [pe_int, pe_bool, pe_str, pe_sl, pe_agg, p1_int, p1_bool, p1_str, p1_sl]; done)))⟩, ⟨_, rfl, rfl, rfl, (by first |  rfl | exact fzP_pure (ints_pure _) | exact fzP_pure (u64s_pure _) | exact fzP_pure (by assumption) | exact fzP_pure (by first | (simp [pureE, pure1, ints]; done) | (simp_all [pe_int, pe_bool, pe_str, pe_sl, pe_agg, p1_int, p1_bool, p1_str, p1_sl]; done)))⟩, ⟨_, rfl, rfl, rfl, (by first |  rfl | exact fzP_pure (ints_pure _) | exact fzP_pure (u64s_pure _) | exact fzP_pure (by assumption) | exact fzP_pure (by first | (simp [pureE, pure1, ints]; done) | (simp_all [pe_int, pe_bool, pe_str, pe_sl, pe_agg, p1_int, p1_bool, p1_str, p1_sl]; done)))⟩, trivial⟩ ?_ ?_)); repeat (first | exact only_refl | refine only_put rfl ?_ | refine only_less rfl ?_ | refine only_ov rfl ?_))
    | ((with_reducible apply n_val); rfl; rfl)
    | ((with_reducible apply n_new); rfl; (first | (simp only [hn0, hn1, hn2, hn3, hn4, hn5, List.length_cons, List.length_nil, Nat.reduceAdd, Nat.zero_add]; done) | (simp only [hn0, hn1, hn2, hn3, hn4, hn5, List.length_cons, List.length_nil, Nat.reduceAdd, Nat.zero_add]; rfl) | rfl); rfl)
    | ((with_reducible apply n_store); rfl; rfl; rfl; rfl; rfl)
    | ((with_reducible apply n_call (f := 7)); rfl; rfl; exact p_law05_awake)
    | ((with_reducible apply n_call (f := 8)); rfl; rfl; exact p_law05_ours ..)
    | ((with_reducible apply n_call (f := 15)); rfl; rfl; exact r_Reach (by first | exact hR | (refine rep_mk ?_; (repeat (first | assumption | exact ok_zero (by omega) | exact ok_ofV _ _ (by assumption) | apply ok_live | apply ok_reach | apply ok_or | apply ok_minus | apply ok_and | apply ok_with | apply ok_wout)))) _ _ (by first | omega | decide | (simp only [decide_eq_true_eq, decide_eq_false_iff_not, Bool.or_eq_false_iff, Bool.not_eq_true', Bool.not_eq_false', Bool.not_true, Bool.not_false, ints_length, List.length_map, tab_length] at *; omega)))
    | ((with_reducible apply n_call (f := 13)); rfl; rfl; exact p_Def ..)
    | ((with_reducible apply n_call (f := 12)); rfl; rfl; exact r_bits_Has (by first | exact hR | (refine rep_mk ?_; (repeat (first | assumption | exact ok_zero (by omega) | exact ok_ofV _ _ (by assumption) | apply ok_live | apply ok_reach | apply ok_or | apply ok_minus | apply ok_and | apply ok_with | apply ok_wout)))) _)
    | ((with_reducible apply n_call (f := 14)); rfl; rfl; exact r_bits_Same (by first | exact hR | (refine rep_mk ?_; (repeat (first | assumption | exact ok_zero (by omega) | exact ok_ofV _ _ (by assumption) | apply ok_live | apply ok_reach | apply ok_or | apply ok_minus | apply ok_and | apply ok_with | apply ok_wout)))) (by first | exact hR | (refine rep_mk ?_; (repeat (first | assumption | exact ok_zero (by omega) | exact ok_ofV _ _ (by assumption) | apply ok_live | apply ok_reach | apply ok_or | apply ok_minus | apply ok_and | apply ok_with | apply ok_wout)))))
    | (with_reducible refine condT_split (fun h => ?_) (fun h => ?_))
    | ((with_reducible apply fnQ_told_ret); rfl)
    | ((with_reducible apply fnQ_ret_soft); rfl; rfl)
  all_goals (try dsimp only at *)
  all_goals (try simp only [decide_eq_true_eq, decide_eq_false_iff_not, ints_length] at *)
  · have e : defI i = -1 := by have := def_lt i; rw [decide_eq_decide] at this; exact this.1 h
    rw [reachV, if_pos e]
    simp
  · omega
  · obtain ⟨h1, h2, h3⟩ := hx
    rw [contains_take h1 h, h3]
    exact ⟨by omega, by omega, rfl⟩
  · obtain ⟨h1, h2, h3⟩ := hx
    have hd : ¬ defI i = -1 := by omega
    have hq : q = true := by
      cases q with
      | true => rfl
      | false => simp at *
    rw [take_all (by omega)] at h3
    rw [← hn hq, reach_law1, reach_law2 M a i ids hd, h3]
    by_cases e : k = i.id
    · subst e; simp
    · rw [reach_law3 M a i ids k hd e]; simp
  · exact ⟨by omega, by omega, rfl⟩

end Go.Vm
