/- Walks. -/
import Derived.Test.YtjegabeechopdaaCbitsF
import Derived.Test.YtjegabeechopdaaWbitsE
import Derived.Test.YtjegabeechopdaaLSetN
set_option maxRecDepth 100000
set_option linter.unusedSimpArgs false
set_option linter.unusedVariables false
namespace Go.Vm
open Go

section
variable {gl : Nat → Option PV}
set_option maxHeartbeats 4000000
set_option exponentiation.threshold 2000
theorem l_BitsChain (n : Int) (l : List Int) : Pure Go.Proofs.Try.prog gl 15 [.int .i64 n, .sl (ints l)] (.bool true) := by
  have hN := p_bits_New (gl := gl) (n % 128)
  have hO := fun h => p_bits_Of (gl := gl) (n % 128) l h
  have hq : 0 ≤ n % 128 ∧ n % 128 < 128 := by omega
  have hcl : clN (n % 128) = n % 128 := by unfold clN; omega
  have hnn := b_and127i n
  rw [hcl] at hN hO
  generalize n % 128 = Q at *
  have hok : Ok Q 0 := ok_zero (by omega)
  have hoc : Ok Q (ofV Q l) := ok_ofV _ _ (by omega)
  refine Pure.fn hmix b15 ?_
  repeat' first
    | with_reducible refine tr_seq ?_
    | ((with_reducible refine tr_region_f ?_ ?_); kernel_rfl)
    | ((with_reducible refine tr_region_t ?_ ?_ ?_); kernel_rfl; kernel_rfl)
    | with_reducible refine n_nil ?_
    | exact ⟨rfl, rfl⟩
    | with_reducible refine seqQ_normal ?_
    | with_reducible refine seqQ_exit ?_
    | with_reducible refine seqQ_ret ?_
    | with_reducible refine blkQ_normal ?_
    | with_reducible refine blkQ_exit ?_
    | with_reducible refine blkQ_ret ?_
    | ((with_reducible refine blkQ_exit_ne ?_ ?_); rfl)
    | with_reducible refine tr_block ?_
    | with_reducible refine tr_skip ?_
    | with_reducible refine tr_exit ?_
    | with_reducible refine tr_ret ?_
    | ((with_reducible apply tr_cond_e); rfl)
    | with_reducible refine condT_t ?_
    | with_reducible refine condT_f ?_
    | ((with_reducible apply n_and); rfl; rfl; intro h)
    | ((with_reducible apply n_or); rfl; rfl; intro h)
    | with_reducible refine loopV_exit ?_
    | with_reducible refine loopV_ret ?_
    | ((with_reducible apply n_bin); rfl; rfl; exact hnn)
    | ((with_reducible apply n_idx_ints); rfl; rfl; first | omega | decide | exact pow_lt64 _ | exact getD_lt (by first | assumption | exact words_lt _ _ | exact mixW_lt or64 | exact mixW_lt and64 | exact mixW_lt minus64) _ | (simp only [decide_eq_true_eq, decide_eq_false_iff_not, Bool.or_eq_false_iff, Bool.and_eq_true, Bool.not_eq_true', Bool.not_eq_false', bne_iff_ne, ne_eq, bne_eq_false_iff_eq, beq_iff_eq, beq_eq_false_iff_ne, Bool.and_eq_false_iff, ints_length, u64s_length, words_length, mixW_length, List.length_replicate] at *; omega))
    | refine n_call (f := 68) rfl rfl hN ?_
    | refine n_call (f := 74) rfl rfl (hO (by first | omega | decide | exact pow_lt64 _ | exact getD_lt (by first | assumption | exact words_lt _ _ | exact mixW_lt or64 | exact mixW_lt and64 | exact mixW_lt minus64) _ | (simp only [decide_eq_true_eq, decide_eq_false_iff_not, Bool.or_eq_false_iff, Bool.and_eq_true, Bool.not_eq_true', Bool.not_eq_false', bne_iff_ne, ne_eq, bne_eq_false_iff_eq, beq_iff_eq, beq_eq_false_iff_ne, Bool.and_eq_false_iff, ints_length, u64s_length, words_length, mixW_length, List.length_replicate] at *; omega))) ?_
    | (refine tr_loop_v (α := Int × Int × Nat) 1 (fun | (i, k, v) => [(8, some (.int .i64 i)), (7, some (.int .i64 k)), (18, none), (19, none), (20, none), (21, none), (24, none), (25, none), (26, none), (27, none), (28, none), (29, none), (9, none), (30, none), (31, none), (32, none), (33, none), (34, none), (35, none), (36, none), (37, none), (38, none), (39, none), (40, none), (41, none), (42, none), (43, none), (44, none), (45, none), (46, none), (47, none), (48, none), (49, none), (50, none), (51, none), (52, none), (53, none), (54, none), (55, none), (56, none), (57, none), (58, none), (59, none), (60, none), (61, none), (4, none), (62, none), (63, none), (64, none), (65, none), (66, none), (67, none), (68, none), (22, none), (23, none)]) (fun | (i, k, v) => [some ⟨0, 2, [mk Q v]⟩]) (fun | (i, k, v) => 0 ≤ i ∧ i ≤ l.length ∧ Ok Q v ∧ v = ofV Q (l.take i.toNat) ∧ k = (cn v : Nat)) (fun | (i, k, v) => (l.length - i).toNat) (0, 0, 0) (ks := [8, 7, 18, 19, 20, 21, 24, 25, 26, 27, 28, 29, 9, 30, 31, 32, 33, 34, 35, 36, 37, 38, 39, 40, 41, 42, 43, 44, 45, 46, 47, 48, 49, 50, 51, 52, 53, 54, 55, 56, 57, 58, 59, 60, 61, 4, 62, 63, 64, 65, 66, 67, 68, 22, 23]) (fun _ => rfl) (fun _ => rfl) rfl (by omega) ?_ ⟨⟨_, rfl, rfl⟩, ⟨_, rfl, rfl⟩, trivial⟩ ⟨⟨_, rfl, rfl, rfl, (by first |  rfl | exact fzP_pure (ints_pure _) | exact fzP_pure (u64s_pure _) | exact fzP_pure (by assumption) | exact fzP_pure (by first | (simp [pureE, pure1, ints]; done) | (simp_all [pe_int, pe_bool, pe_str, pe_sl, pe_agg, p1_int, p1_bool, p1_str, p1_sl]; done)))⟩, trivial⟩ ?_; rotate_left; rintro ⟨i, k, v⟩ hx; try dsimp only at hx)
    | (refine loopV_normal (_, _, _) ?_ ⟨⟨_, rfl, rfl⟩, ⟨_, rfl, rfl⟩, trivial⟩ ⟨⟨_, rfl, rfl, rfl, (by first |  rfl | exact fzP_pure (ints_pure _) | exact fzP_pure (u64s_pure _) | exact fzP_pure (by assumption) | exact fzP_pure (by first | (simp [pureE, pure1, ints]; done) | (simp_all [pe_int, pe_bool, pe_str, pe_sl, pe_agg, p1_int, p1_bool, p1_str, p1_sl]; done)))⟩, trivial⟩ ?_ ?_; repeat (first | exact only_refl | refine only_put rfl ?_ | refine only_less rfl ?_ | refine only_ov rfl ?_))
    | ((with_reducible apply n_val); rfl; rfl)
    | ((with_reducible apply n_new); rfl; (first | (simp only [hn0, hn1, hn2, hn3, hn4, hn5, List.length_cons, List.length_nil, Nat.reduceAdd, Nat.zero_add]; done) | (simp only [hn0, hn1, hn2, hn3, hn4, hn5, List.length_cons, List.length_nil, Nat.reduceAdd, Nat.zero_add]; rfl) | rfl); rfl)
    | ((with_reducible apply n_store); rfl; rfl; rfl; rfl; rfl)
    | ((with_reducible apply n_call (f := 67)); rfl; rfl; exact p_law01_awake)
    | ((with_reducible apply n_call (f := 69)); rfl; rfl; exact r_bits_With (by first | exact hx | exact hy | exact hz | exact hs | (refine rep_mk ?_; (repeat (first | assumption | exact hx.2.2.1 | exact ok_with hx.2.2.1 | exact ok_zero (by omega) | exact ok_ofV _ _ (by assumption) | apply ok_or | apply ok_minus | apply ok_and | apply ok_with | apply ok_wout)))) _)
    | ((with_reducible apply n_call (f := 72)); rfl; rfl; exact r_bits_Has (by first | exact hx | exact hy | exact hz | exact hs | (refine rep_mk ?_; (repeat (first | assumption | exact hx.2.2.1 | exact ok_with hx.2.2.1 | exact ok_zero (by omega) | exact ok_ofV _ _ (by assumption) | apply ok_or | apply ok_minus | apply ok_and | apply ok_with | apply ok_wout)))) _)
    | ((with_reducible apply n_call (f := 70)); rfl; rfl; exact r_bits_Leq (by first | exact hx | exact hy | exact hz | exact hs | (refine rep_mk ?_; (repeat (first | assumption | exact hx.2.2.1 | exact ok_with hx.2.2.1 | exact ok_zero (by omega) | exact ok_ofV _ _ (by assumption) | apply ok_or | apply ok_minus | apply ok_and | apply ok_with | apply ok_wout)))) (by first | exact hx | exact hy | exact hz | exact hs | (refine rep_mk ?_; (repeat (first | assumption | exact hx.2.2.1 | exact ok_with hx.2.2.1 | exact ok_zero (by omega) | exact ok_ofV _ _ (by assumption) | apply ok_or | apply ok_minus | apply ok_and | apply ok_with | apply ok_wout)))))
    | ((with_reducible apply n_call (f := 71)); rfl; rfl; exact r_bits_Same (by first | exact hx | exact hy | exact hz | exact hs | (refine rep_mk ?_; (repeat (first | assumption | exact hx.2.2.1 | exact ok_with hx.2.2.1 | exact ok_zero (by omega) | exact ok_ofV _ _ (by assumption) | apply ok_or | apply ok_minus | apply ok_and | apply ok_with | apply ok_wout)))) (by first | exact hx | exact hy | exact hz | exact hs | (refine rep_mk ?_; (repeat (first | assumption | exact hx.2.2.1 | exact ok_with hx.2.2.1 | exact ok_zero (by omega) | exact ok_ofV _ _ (by assumption) | apply ok_or | apply ok_minus | apply ok_and | apply ok_with | apply ok_wout)))))
    | ((with_reducible apply n_call (f := 73)); rfl; rfl; exact r_bits_Count (by first | exact hx | exact hy | exact hz | exact hs | (refine rep_mk ?_; (repeat (first | assumption | exact hx.2.2.1 | exact ok_with hx.2.2.1 | exact ok_zero (by omega) | exact ok_ofV _ _ (by assumption) | apply ok_or | apply ok_minus | apply ok_and | apply ok_with | apply ok_wout)))))
    | (with_reducible refine condT_split (fun h => ?_) (fun h => ?_))
    | ((with_reducible apply fnQ_told_ret); rfl)
    | ((with_reducible apply fnQ_ret_soft); rfl; rfl)
  all_goals (try dsimp only at *)
  · rw [chain1] at h
    cases h
  · simp only [decide_eq_true_eq, decide_eq_false_iff_not, ints_length] at *
    rw [wrap_i64_of (by omega)]; omega
  · have hne : ¬ v = vWith Q v (l.getD i.toNat 0) := by simpa using h
    clear h
    obtain ⟨g1, g2, g3, g4, g5⟩ := hx
    have hi : i < l.length := by simp only [decide_eq_true_eq, ints_length] at *; assumption
    have hl : ¬ (l.length : Int) > 200 := by simp only [decide_eq_false_iff_not, ints_length] at *; assumption
    have hc := cn_with_new (by omega) hne
    have hle := cn_le v
    rw [wrap_i64_of (n := i + 1) (by omega), wrap_i64_of (n := k + 1) (by omega), ofV_take g1 hi, ← g4]
    exact ⟨by omega, by omega, ok_with g3, rfl, by omega⟩
  · simp only [decide_eq_true_eq, decide_eq_false_iff_not, ints_length] at *
    rw [wrap_i64_of (by omega)]; omega
  · have hne : v = vWith Q v (l.getD i.toNat 0) := by simpa using h
    clear h
    obtain ⟨g1, g2, g3, g4, g5⟩ := hx
    have hi : i < l.length := by simp only [decide_eq_true_eq, ints_length] at *; assumption
    have hl : ¬ (l.length : Int) > 200 := by simp only [decide_eq_false_iff_not, ints_length] at *; assumption
    rw [wrap_i64_of (n := i + 1) (by omega), ofV_take g1 hi, ← g4, ← hne]
    exact ⟨by omega, by omega, g3, rfl, g5⟩
  · obtain ⟨g1, g2, g3, g4, g5⟩ := hx
    have hi : ¬ i < l.length := by simpa [ints_length] using h
    have hl := cn_le_ok g3
    rw [take_all (by omega)] at g4
    refine congrArg PV.bool ?_
    rw [← g4, g5]
    simp
    omega
  · exact ⟨by omega, by omega, hok, rfl, by rw [cn_none]; rfl⟩
end

end Go.Vm
