/- Laid. -/
import Derived.Test.YtjegabeechopdaaCbitsH
import Derived.Test.YtjegabeechopdaaWbitsG
/- Walks. -/
set_option maxRecDepth 100000
set_option linter.unusedSimpArgs false
set_option linter.unusedVariables false
namespace Go.Vm
open Go

section
variable {gl : Nat → Option PV}
set_option maxHeartbeats 4000000
set_option exponentiation.threshold 2000
theorem p_ref_bit2 (n : Int) (ws : List Nat) (hw : W64 ws) (i : Int) (h0 : 0 ≤ i) (h1 : i < nN n ws) : Pure Go.Proofs.Try.prog gl 118 [.sl (u64s ws), .int .i64 i] (.bool ((vN n ws).testBit i.toNat)) := by
  cases hs : bSane n ws with
  | false => rw [unsane_nN hs] at h1; omega
  | true =>
    have h4 := bSane_iff.1 hs
    rw [sane_nN hs] at h1
    rw [sane_vN hs]
    exact p_ref_bit ws i hw ⟨h0, by have := h4.2.2.1; unfold wN at this; omega⟩ (by have := h4.2.2.1; unfold wN at this; omega)
theorem p_ref_pick (m : Int) (ws : List Nat) (n : Int) (us : List Nat) (hw : W64 ws) (hu : W64 us) (how : Int) (F : Nat) (hF : Ok (max (nN m ws) (nN n us)) F)
    (hc : ∀ i : Int, 0 ≤ i → (how == 0 && (decide (i < nN m ws) && (vN m ws).testBit i.toNat || decide (i < nN n us) && (vN n us).testBit i.toNat) || how == 1 && (decide (i < nN m ws) && (vN m ws).testBit i.toNat) && !(decide (i < nN n us) && (vN n us).testBit i.toNat) || how == 2 && (decide (i < nN m ws) && (vN m ws).testBit i.toNat) && (decide (i < nN n us) && (vN n us).testBit i.toNat)) = F.testBit i.toNat) :
    Pure Go.Proofs.Try.prog gl 113 [sv m ws, sv n us, .int .i64 how] (mk (max (nN m ws) (nN n us)) F) := by
  have h1 := nN_r m ws
  have h2 := nN_r n us
  have s1 := p_ref_size (gl := gl) m ws hw
  have s2 := p_ref_size (gl := gl) n us hu
  have b1 := p_ref_bit2 (gl := gl) m ws hw
  have b2 := p_ref_bit2 (gl := gl) n us hu
  have hO := p_ref_Of (gl := gl) (max (nN m ws) (nN n us)) (bList F (max (nN m ws) (nN n us))) (by have := bList_len F (max (nN m ws) (nN n us)) (by omega); omega)
  rw [show clN (max (nN m ws) (nN n us)) = max (nN m ws) (nN n us) by unfold clN; omega, ofV_bList hF] at hO
  generalize nN m ws = M at *
  generalize nN n us = N at *
  generalize vN m ws = a at *
  generalize vN n us = b at *
  refine Pure.fn hmix b113 ?_
  repeat' first
    | (refine tr_join (α := List PV) (a := .seq _ (.block _ (.loop _))) 3 (fun | l => [(10, some (.sl l)), (21, none), (22, none), (23, none), (26, none), (27, none), (28, none), (29, none), (30, none), (31, none), (32, none), (33, none), (34, none), (12, none), (35, none), (36, none), (37, none), (38, none), (39, none), (40, none), (41, none), (42, none), (43, none), (13, none), (44, none), (45, none), (46, none), (47, none), (48, none), (49, none), (50, none), (51, none), (52, none), (53, none), (54, none), (55, none), (56, none), (57, none), (58, none), (59, none), (60, none), (61, none), (62, none), (63, none), (64, none), (65, none), (66, none), (67, none), (68, none), (69, none), (70, none), (71, none), (72, none), (73, none), (74, none), (75, none), (76, none), (24, none), (25, none), (11, none)]) (fun | l => [none, none, some ⟨0, 2, [.agg [.int .i64 0, .lit []]]⟩]) (fun | l => l = ints (bList F (max M N))) (ks := [10, 21, 22, 23, 26, 27, 28, 29, 30, 31, 32, 33, 34, 12, 35, 36, 37, 38, 39, 40, 41, 42, 43, 13, 44, 45, 46, 47, 48, 49, 50, 51, 52, 53, 54, 55, 56, 57, 58, 59, 60, 61, 62, 63, 64, 65, 66, 67, 68, 69, 70, 71, 72, 73, 74, 75, 76, 24, 25, 11]) (fun _ => rfl) (fun _ => rfl) rfl (by omega) ?_ ?_; rotate_left; (rintro l hj; try dsimp only at hj); rotate_left)
    | with_reducible refine tr_seq ?_
    | ((with_reducible refine tr_region_f ?_ ?_); kernel_rfl)
    | with_reducible refine n_nil ?_
    | exact ⟨rfl, rfl⟩
    | with_reducible refine seqQ_normal ?_
    | with_reducible refine seqQ_exit ?_
    | with_reducible refine seqQ_ret ?_
    | with_reducible refine blkQ_normal ?_
    | with_reducible refine blkQ_exit ?_
    | with_reducible refine blkQ_ret ?_
    | ((with_reducible refine blkQ_exit_ne ?_ ?_); rfl)
    | with_reducible refine tr_block ?_
    | with_reducible refine tr_skip ?_
    | with_reducible refine tr_exit ?_
    | with_reducible refine tr_ret ?_
    | ((with_reducible apply tr_cond_e); rfl)
    | with_reducible refine condT_t ?_
    | with_reducible refine condT_f ?_
    | ((with_reducible apply n_and); rfl; rfl; intro h)
    | ((with_reducible apply n_or); rfl; rfl; intro h)
    | with_reducible refine loopV_exit ?_
    | with_reducible refine loopV_ret ?_
    | (refine joinV_normal _ ?_ ⟨⟨_, rfl, (by first | rfl | exact fz_row rfl rfl (by decide) (by first | assumption | exact hx.2.2.2.1 | exact hx.2.1))⟩, trivial⟩ ⟨⟨_, rfl, rfl, rfl, (by first |  rfl | exact fzP_pure (ints_pure _) | exact fzP_pure (u64s_pure _) | exact fzP_pure (by assumption) | exact fzP_pure (by first | (simp [pureE, pure1, ints]; done) | (simp_all [pe_int, pe_bool, pe_str, pe_sl, pe_agg, p1_int, p1_bool, p1_str, p1_sl]; done)))⟩, trivial⟩ ?_; repeat (first | exact only_refl | refine only_put rfl ?_ | refine only_less rfl ?_ | refine only_ov rfl ?_))
    | (first | ((with_reducible apply n_bin); rfl; rfl; focus ((with_reducible (first | apply b_add | apply b_sub | apply b_quo64 | apply b_rem64 | apply b_shl1 | apply b_shr | apply b_or64 | apply b_and1 | apply b_and64 | apply b_andNot64 | apply b_mul)) <;> first | omega | decide | exact pow_lt64 _ | exact div_lt64 (by assumption) _ _ | exact getD_lt (by first | assumption | exact words_lt _ _ | exact mixW_lt or64 | exact mixW_lt and64 | exact mixW_lt minus64) _ | (simp only [decide_eq_true_eq, decide_eq_false_iff_not, Bool.or_eq_false_iff, Bool.and_eq_true, Bool.not_eq_true', Bool.not_eq_false', bne_iff_ne, ne_eq, bne_eq_false_iff_eq, beq_iff_eq, beq_eq_false_iff_ne, Bool.and_eq_false_iff, ints_length, u64s_length, words_length, mixW_length, List.length_replicate] at *; omega))) | ((with_reducible apply n_min); rfl; rfl) | ((with_reducible apply n_max); rfl; rfl) | ((first | ((with_reducible apply n_conv); rfl; with_reducible apply wrap_u64_of) | ((with_reducible apply n_idx_u64); rfl; rfl) | ((with_reducible apply n_idx_own); rfl; rfl; rfl) | ((with_reducible apply n_load_u64); rfl; rfl) | ((with_reducible apply n_store_u64); rfl; rfl; rfl) | ((with_reducible apply n_mk64); rfl; rfl)); first | omega | decide | exact pow_lt64 _ | exact div_lt64 (by assumption) _ _ | exact getD_lt (by first | assumption | exact words_lt _ _ | exact mixW_lt or64 | exact mixW_lt and64 | exact mixW_lt minus64) _ | (simp only [decide_eq_true_eq, decide_eq_false_iff_not, Bool.or_eq_false_iff, Bool.and_eq_true, Bool.not_eq_true', Bool.not_eq_false', bne_iff_ne, ne_eq, bne_eq_false_iff_eq, beq_iff_eq, beq_eq_false_iff_ne, Bool.and_eq_false_iff, ints_length, u64s_length, words_length, mixW_length, List.length_replicate] at *; omega)) | ((with_reducible apply fnQ_ret_set); rfl; rfl; (first | rfl | exact (by simp only [words_length, mixW_length, List.length_replicate, List.length_set]))))
    | refine n_call (f := 115) rfl rfl s1 ?_
    | refine n_call (f := 115) rfl rfl s2 ?_
    | refine n_call (f := 118) rfl rfl (b1 _ (by first | omega | decide | exact pow_lt64 _ | exact div_lt64 (by assumption) _ _ | exact getD_lt (by first | assumption | exact words_lt _ _ | exact mixW_lt or64 | exact mixW_lt and64 | exact mixW_lt minus64) _ | (simp only [decide_eq_true_eq, decide_eq_false_iff_not, Bool.or_eq_false_iff, Bool.and_eq_true, Bool.not_eq_true', Bool.not_eq_false', bne_iff_ne, ne_eq, bne_eq_false_iff_eq, beq_iff_eq, beq_eq_false_iff_ne, Bool.and_eq_false_iff, ints_length, u64s_length, words_length, mixW_length, List.length_replicate] at *; omega)) (by first | omega | decide | exact pow_lt64 _ | exact div_lt64 (by assumption) _ _ | exact getD_lt (by first | assumption | exact words_lt _ _ | exact mixW_lt or64 | exact mixW_lt and64 | exact mixW_lt minus64) _ | (simp only [decide_eq_true_eq, decide_eq_false_iff_not, Bool.or_eq_false_iff, Bool.and_eq_true, Bool.not_eq_true', Bool.not_eq_false', bne_iff_ne, ne_eq, bne_eq_false_iff_eq, beq_iff_eq, beq_eq_false_iff_ne, Bool.and_eq_false_iff, ints_length, u64s_length, words_length, mixW_length, List.length_replicate] at *; omega))) ?_
    | refine n_call (f := 118) rfl rfl (b2 _ (by first | omega | decide | exact pow_lt64 _ | exact div_lt64 (by assumption) _ _ | exact getD_lt (by first | assumption | exact words_lt _ _ | exact mixW_lt or64 | exact mixW_lt and64 | exact mixW_lt minus64) _ | (simp only [decide_eq_true_eq, decide_eq_false_iff_not, Bool.or_eq_false_iff, Bool.and_eq_true, Bool.not_eq_true', Bool.not_eq_false', bne_iff_ne, ne_eq, bne_eq_false_iff_eq, beq_iff_eq, beq_eq_false_iff_ne, Bool.and_eq_false_iff, ints_length, u64s_length, words_length, mixW_length, List.length_replicate] at *; omega)) (by first | omega | decide | exact pow_lt64 _ | exact div_lt64 (by assumption) _ _ | exact getD_lt (by first | assumption | exact words_lt _ _ | exact mixW_lt or64 | exact mixW_lt and64 | exact mixW_lt minus64) _ | (simp only [decide_eq_true_eq, decide_eq_false_iff_not, Bool.or_eq_false_iff, Bool.and_eq_true, Bool.not_eq_true', Bool.not_eq_false', bne_iff_ne, ne_eq, bne_eq_false_iff_eq, beq_iff_eq, beq_eq_false_iff_ne, Bool.and_eq_false_iff, ints_length, u64s_length, words_length, mixW_length, List.length_replicate] at *; omega))) ?_
    | (subst hj; refine n_call (f := 119) rfl rfl hO ?_)
    | (refine tr_virt 10 1 3 rfl (by omega) rfl ?_; refine tr_loop_v (α := Int × Nat × List PV) 4 (fun | (i, g, l) => [(11, some (.int .i64 i)), (10, some (.ref 3 g 0 l.length)), (21, none), (22, none), (23, none), (26, none), (27, none), (28, none), (29, none), (30, none), (31, none), (32, none), (33, none), (34, none), (12, none), (35, none), (36, none), (37, none), (38, none), (39, none), (40, none), (41, none), (42, none), (43, none), (13, none), (44, none), (45, none), (46, none), (47, none), (48, none), (49, none), (50, none), (51, none), (52, none), (53, none), (54, none), (55, none), (56, none), (57, none), (58, none), (59, none), (60, none), (61, none), (62, none), (63, none), (64, none), (65, none), (66, none), (67, none), (68, none), (69, none), (70, none), (71, none), (72, none), (73, none), (74, none), (75, none), (76, none), (24, none), (25, none)]) (fun | (i, g, l) => [some ⟨0, 2, [sv m ws]⟩, some ⟨0, 2, [sv n us]⟩, some ⟨0, 2, [.agg [.int .i64 0, .lit []]]⟩, some ⟨g, 1, l⟩]) (fun | (i, g, l) => 0 ≤ i ∧ i ≤ max M N ∧ l = ints (bList F i) ∧ l.all pureE = true ∧ l.length ≤ i) (fun | (i, g, l) => (max M N - i).toNat) (0, 0, []) (ks := [11, 10, 21, 22, 23, 26, 27, 28, 29, 30, 31, 32, 33, 34, 12, 35, 36, 37, 38, 39, 40, 41, 42, 43, 13, 44, 45, 46, 47, 48, 49, 50, 51, 52, 53, 54, 55, 56, 57, 58, 59, 60, 61, 62, 63, 64, 65, 66, 67, 68, 69, 70, 71, 72, 73, 74, 75, 76, 24, 25]) (fun _ => rfl) (fun _ => rfl) rfl (by omega) ?_ ⟨⟨_, rfl, rfl⟩, ⟨_, rfl, rfl⟩, trivial⟩ ⟨⟨_, rfl, rfl, rfl, (by first |  rfl | exact fzP_pure (ints_pure _) | exact fzP_pure (u64s_pure _) | exact fzP_pure (by assumption) | exact fzP_pure (by first | (simp [pureE, pure1, ints]; done) | (simp_all [pe_int, pe_bool, pe_str, pe_sl, pe_agg, p1_int, p1_bool, p1_str, p1_sl]; done)))⟩, ⟨_, rfl, rfl, rfl, (by first |  rfl | exact fzP_pure (ints_pure _) | exact fzP_pure (u64s_pure _) | exact fzP_pure (by assumption) | exact fzP_pure (by first | (simp [pureE, pure1, ints]; done) | (simp_all [pe_int, pe_bool, pe_str, pe_sl, pe_agg, p1_int, p1_bool, p1_str, p1_sl]; done)))⟩, ⟨_, rfl, rfl, rfl, (by first |  rfl | exact fzP_pure (ints_pure _) | exact fzP_pure (u64s_pure _) | exact fzP_pure (by assumption) | exact fzP_pure (by first | (simp [pureE, pure1, ints]; done) | (simp_all [pe_int, pe_bool, pe_str, pe_sl, pe_agg, p1_int, p1_bool, p1_str, p1_sl]; done)))⟩, ⟨_, rfl, rfl, rfl, (by first |  rfl | exact fzP_pure (ints_pure _) | exact fzP_pure (u64s_pure _) | exact fzP_pure (by assumption) | exact fzP_pure (by first | (simp [pureE, pure1, ints]; done) | (simp_all [pe_int, pe_bool, pe_str, pe_sl, pe_agg, p1_int, p1_bool, p1_str, p1_sl]; done)))⟩, trivial⟩ ?_; rotate_left; rintro ⟨i, g, l⟩ hx; try dsimp only at hx)
    | (refine loopV_normal (_, _, _) ?_ ⟨⟨_, rfl, rfl⟩, ⟨_, rfl, rfl⟩, trivial⟩ ⟨⟨_, rfl, rfl, rfl, (by first |  rfl | exact fzP_pure (ints_pure _) | exact fzP_pure (u64s_pure _) | exact fzP_pure (by assumption) | exact fzP_pure (by first | (simp [pureE, pure1, ints]; done) | (simp_all [pe_int, pe_bool, pe_str, pe_sl, pe_agg, p1_int, p1_bool, p1_str, p1_sl]; done)))⟩, ⟨_, rfl, rfl, rfl, (by first |  rfl | exact fzP_pure (ints_pure _) | exact fzP_pure (u64s_pure _) | exact fzP_pure (by assumption) | exact fzP_pure (by first | (simp [pureE, pure1, ints]; done) | (simp_all [pe_int, pe_bool, pe_str, pe_sl, pe_agg, p1_int, p1_bool, p1_str, p1_sl]; done)))⟩, ⟨_, rfl, rfl, rfl, (by first |  rfl | exact fzP_pure (ints_pure _) | exact fzP_pure (u64s_pure _) | exact fzP_pure (by assumption) | exact fzP_pure (by first | (simp [pureE, pure1, ints]; done) | (simp_all [pe_int, pe_bool, pe_str, pe_sl, pe_agg, p1_int, p1_bool, p1_str, p1_sl]; done)))⟩, ⟨_, rfl, rfl, rfl, (by first |  rfl | exact fzP_pure (ints_pure _) | exact fzP_pure (u64s_pure _) | exact fzP_pure (by assumption) | exact fzP_pure (by first | (simp [pureE, pure1, ints]; done) | (simp_all [pe_int, pe_bool, pe_str, pe_sl, pe_agg, p1_int, p1_bool, p1_str, p1_sl]; done)))⟩, trivial⟩ ?_ ?_; repeat (first | exact only_refl | refine only_put rfl ?_ | refine only_less rfl ?_ | refine only_ov rfl ?_))
    | (with_reducible refine joinV_exit ?_)
    | (with_reducible refine joinV_ret ?_)
    | ((with_reducible apply n_val); rfl; rfl)
    | ((with_reducible apply n_new); rfl; (first | (simp only [hn0, hn1, hn2, hn3, hn4, hn5, List.length_cons, List.length_nil, Nat.reduceAdd, Nat.zero_add]; done) | (simp only [hn0, hn1, hn2, hn3, hn4, hn5, List.length_cons, List.length_nil, Nat.reduceAdd, Nat.zero_add]; rfl) | rfl); rfl)
    | ((with_reducible apply n_store); rfl; rfl; rfl; rfl; rfl)
    | ((with_reducible apply n_append); rfl; rfl; rfl; rfl; rfl; rfl; (first | decide | (simp only [List.length_append, List.length_cons, List.length_nil, List.length_set, List.length_replicate, ints_length] at *; omega)); rfl)
    | ((with_reducible apply n_append_lit); rfl; rfl; rfl; rfl; rfl; (first | decide | (simp only [List.length_append, List.length_cons, List.length_nil, List.length_set, List.length_replicate, ints_length] at *; omega)); (first | (simp only [hn0, hn1, hn2, hn3, hn4, hn5, List.length_cons, List.length_nil, Nat.reduceAdd, Nat.zero_add]; done) | (simp only [hn0, hn1, hn2, hn3, hn4, hn5, List.length_cons, List.length_nil, Nat.reduceAdd, Nat.zero_add]; rfl) | rfl); rfl)
    | (with_reducible refine condT_split (fun h => ?_) (fun h => ?_))
    | ((with_reducible apply fnQ_told_ret); rfl)
    | ((with_reducible apply fnQ_ret_soft); rfl; rfl)
    | ((with_reducible apply fnQ_ret_row); rfl; rfl; rfl)
  all_goals (try dsimp only at *)
  · simp only [decide_eq_true_eq] at *; omega
  · obtain ⟨g0, g1, g2, g3, g4⟩ := hx
    rw [hc i g0] at h
    simp only [decide_eq_true_eq] at *
    rw [bList_t g0 (by assumption)]
    refine ⟨by omega, by omega, by rw [g2]; simp [ints], ?_, ?_⟩
    · simp only [List.all_append, g3, Bool.true_and]; rfl
    · simp; omega
  · simp only [decide_eq_true_eq] at *; omega
  · obtain ⟨g0, g1, g2, g3, g4⟩ := hx
    rw [hc i g0] at h
    simp only [decide_eq_true_eq] at *
    rw [bList_f g0 (by assumption)]
    exact ⟨by omega, by omega, g2, g3, by omega⟩
  · simp only [decide_eq_false_iff_not] at h
    rw [hx.2.2.1, show i = max M N by omega]
  · exact ⟨by omega, by omega, rfl, rfl, by simp⟩
end

end Go.Vm
