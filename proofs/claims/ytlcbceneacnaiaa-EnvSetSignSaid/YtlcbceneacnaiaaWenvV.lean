/- Laid. -/
import Derived.Test.YtlcbceneacnaiaaCenvV
import Derived.Test.YtlcbceneacnaiaaWenvU
/- Walks. -/
set_option maxRecDepth 100000
set_option linter.unusedSimpArgs false
set_option linter.unusedVariables false
namespace Go.Vm
open Go

section
variable {gl : Nat → Option PV}
set_option maxHeartbeats 4000000
theorem p_sames4 (oa ob : Bool) (l m : List I64) (hl : l.length ≤ 1000) : Pure Go.Proofs.Try.prog gl 21 [eIn pi oa l, eIn pi ob m] (.bool (oa == ob && l == m)) := by
  refine Pure.fn hmix b21 ?_
  repeat' first
    | with_reducible refine tr_seq ?_
    | ((with_reducible refine tr_region_f ?_ ?_); kernel_rfl)
    | ((with_reducible refine tr_region_t ?_ ?_ ?_); kernel_rfl; kernel_rfl)
    | with_reducible refine n_nil ?_
    | exact ⟨rfl, rfl⟩
    | with_reducible refine seqQ_normal ?_
    | with_reducible refine seqQ_exit ?_
    | with_reducible refine seqQ_ret ?_
    | with_reducible refine blkQ_normal ?_
    | with_reducible refine blkQ_exit ?_
    | with_reducible refine blkQ_ret ?_
    | ((with_reducible refine blkQ_exit_ne ?_ ?_); rfl)
    | with_reducible refine tr_block ?_
    | with_reducible refine tr_skip ?_
    | with_reducible refine tr_exit ?_
    | with_reducible refine tr_ret ?_
    | ((with_reducible apply tr_cond_e); rfl)
    | with_reducible refine condT_t ?_
    | with_reducible refine condT_f ?_
    | ((with_reducible apply n_and); rfl; rfl; intro h)
    | ((with_reducible apply n_or); rfl; rfl; intro h)
    | with_reducible refine loopV_exit ?_
    | with_reducible refine loopV_ret ?_
    | (first | ((with_reducible apply n_bin); rfl; rfl; focus ((with_reducible (first | apply b_add | apply b_sub)) <;> first | omega | (simp only [decide_eq_true_eq, decide_eq_false_iff_not, Bool.or_eq_false_iff, Bool.not_eq_true', Bool.not_eq_false', Bool.not_true, Bool.not_false, ints_length, List.length_map, tab_length] at *; omega))) | ((with_reducible apply n_max); rfl; rfl) | ((with_reducible apply n_min); rfl; rfl))
    | ((with_reducible apply n_idx_vals zi); rfl; rfl; exact (fun _ => rfl); (first | omega | (simp only [decide_eq_true_eq, decide_eq_false_iff_not, Bool.or_eq_false_iff, Bool.not_eq_true', Bool.not_eq_false', Bool.not_true, Bool.not_false, ints_length, List.length_map, tab_length] at *; omega)))
    | (refine tr_loop_v (α := Nat) 2 (fun | k => [(5, some (.int .i64 (k : Int))), (20, none), (21, none), (22, none), (23, none), (24, none), (27, none), (28, none), (29, none), (30, none), (31, none), (32, none), (33, none), (34, none), (35, none), (36, none), (37, none), (4, none), (25, none), (26, none)]) (fun | k => [some ⟨0, 2, [eIn pi oa l]⟩, some ⟨0, 2, [eIn pi ob m]⟩]) (fun | k => k ≤ l.length ∧ l.length = m.length ∧ ∀ j, j < k → l.getD j zi = m.getD j zi) (fun | k => l.length - k) (0) (ks := [5, 20, 21, 22, 23, 24, 27, 28, 29, 30, 31, 32, 33, 34, 35, 36, 37, 4, 25, 26]) (fun _ => rfl) (fun _ => rfl) rfl (by omega) ?_ ⟨⟨_, rfl, rfl⟩, trivial⟩ ⟨⟨_, rfl, rfl, rfl, (by first |  rfl | exact fzP_pure (ints_pure _) | exact fzP_pure (u64s_pure _) | exact fzP_pure (by assumption) | exact fzP_pure (by first | (simp [pureE, pure1, ints]; done) | (simp_all [pe_int, pe_bool, pe_str, pe_sl, pe_agg, p1_int, p1_bool, p1_str, p1_sl]; done)))⟩, ⟨_, rfl, rfl, rfl, (by first |  rfl | exact fzP_pure (ints_pure _) | exact fzP_pure (u64s_pure _) | exact fzP_pure (by assumption) | exact fzP_pure (by first | (simp [pureE, pure1, ints]; done) | (simp_all [pe_int, pe_bool, pe_str, pe_sl, pe_agg, p1_int, p1_bool, p1_str, p1_sl]; done)))⟩, trivial⟩ ?_; rotate_left; rintro k hx; try dsimp only at hx)
    | (refine loopV_normal ((k + 1)) ?_ ⟨⟨_, rfl, rfl⟩, trivial⟩ ⟨⟨_, rfl, rfl, rfl, (by first |  rfl | exact fzP_pure (ints_pure _) | exact fzP_pure (u64s_pure _) | exact fzP_pure (by assumption) | exact fzP_pure (by first | (simp [pureE, pure1, ints]; done) | (simp_all [pe_int, pe_bool, pe_str, pe_sl, pe_agg, p1_int, p1_bool, p1_str, p1_sl]; done)))⟩, ⟨_, rfl, rfl, rfl, (by first |  rfl | exact fzP_pure (ints_pure _) | exact fzP_pure (u64s_pure _) | exact fzP_pure (by assumption) | exact fzP_pure (by first | (simp [pureE, pure1, ints]; done) | (simp_all [pe_int, pe_bool, pe_str, pe_sl, pe_agg, p1_int, p1_bool, p1_str, p1_sl]; done)))⟩, trivial⟩ ?_ ?_; repeat (first | exact only_refl | refine only_put rfl ?_ | refine only_less rfl ?_ | refine only_ov rfl ?_))
    | ((with_reducible apply n_val); rfl; rfl)
    | ((with_reducible apply n_new); rfl; (first | (simp only [hn0, hn1, hn2, hn3, hn4, hn5, List.length_cons, List.length_nil, Nat.reduceAdd, Nat.zero_add]; done) | (simp only [hn0, hn1, hn2, hn3, hn4, hn5, List.length_cons, List.length_nil, Nat.reduceAdd, Nat.zero_add]; rfl) | rfl); rfl)
    | (with_reducible refine condT_split (fun h => ?_) (fun h => ?_))
    | ((with_reducible apply fnQ_told_ret); rfl)
    | ((with_reducible apply fnQ_ret_soft); rfl; rfl)
  all_goals (try dsimp only at *)
  all_goals (try simp only [decide_eq_true_eq, decide_eq_false_iff_not, List.length_map, Bool.or_eq_true, Bool.or_eq_false_iff, bne_iff_ne, ne_eq, bne_eq_false_iff_eq, Bool.not_eq_true', Bool.not_eq_false', Bool.and_true] at *)
  · refine congrArg PV.bool (Eq.symm ?_)
    rw [Bool.and_eq_false_iff]
    rcases h with h | h
    · left; simpa using h
    · right
      have : l ≠ m := fun e => h (by rw [e])
      simpa using this
  · refine congrArg PV.bool (Eq.symm ?_)
    rw [Bool.and_eq_false_iff]
    right
    have : l ≠ m := fun e => by subst e; simp at h
    simpa using this
  · omega
  · refine ⟨by omega, hx.2.1, fun j hj => ?_⟩
    by_cases e : j = k
    · subst e
      exact Subtype.ext h
    · exact hx.2.2 j (by omega)
  · refine congrArg PV.bool (Eq.symm ?_)
    have e : l = m := ext_getD zi hx.2.1 (fun i hi => hx.2.2 i (by omega))
    rw [e]
    simp_all
  · exact ⟨by omega, by omega, fun j hj => absurd hj (by omega)⟩
theorem p_theirs4 (on : Bool) (l : List I64) (hb : l.length ≤ 1000) : Pure Go.Proofs.Try.prog gl 22 [eIn pi on l] (eIn pi on l) := by
  refine Pure.fn hmix b22 ?_
  repeat' first
    | with_reducible refine tr_seq ?_
    | ((with_reducible refine tr_region_f ?_ ?_); kernel_rfl)
    | with_reducible refine n_nil ?_
    | with_reducible refine seqQ_normal ?_
    | with_reducible refine seqQ_ret ?_
    | with_reducible refine blkQ_ret ?_
    | with_reducible refine tr_ret ?_
    | ((with_reducible apply n_val); rfl; rfl)
    | ((with_reducible apply n_new); rfl; (first | (simp only [hn0, hn1, hn2, hn3, hn4, hn5, List.length_cons, List.length_nil, Nat.reduceAdd, Nat.zero_add]; done) | (simp only [hn0, hn1, hn2, hn3, hn4, hn5, List.length_cons, List.length_nil, Nat.reduceAdd, Nat.zero_add]; rfl) | rfl); rfl)
    | ((with_reducible apply n_store); rfl; rfl; rfl; rfl; rfl)
    | ((with_reducible apply fnQ_told_ret); rfl)
    | ((with_reducible apply fnQ_ret_soft); rfl; rfl)
  rfl
theorem p_ours4 (on : Bool) (l : List I64) (hb : l.length ≤ 1000) : Pure Go.Proofs.Try.prog gl 18 [eIn pi on l] (eIn pi on l) := by
  refine Pure.fn hmix b18 ?_
  repeat' first
    | with_reducible refine tr_seq ?_
    | ((with_reducible refine tr_region_f ?_ ?_); kernel_rfl)
    | with_reducible refine n_nil ?_
    | with_reducible refine seqQ_normal ?_
    | with_reducible refine seqQ_ret ?_
    | with_reducible refine blkQ_ret ?_
    | with_reducible refine tr_ret ?_
    | ((with_reducible apply n_val); rfl; rfl)
    | ((with_reducible apply n_new); rfl; (first | (simp only [hn0, hn1, hn2, hn3, hn4, hn5, List.length_cons, List.length_nil, Nat.reduceAdd, Nat.zero_add]; done) | (simp only [hn0, hn1, hn2, hn3, hn4, hn5, List.length_cons, List.length_nil, Nat.reduceAdd, Nat.zero_add]; rfl) | rfl); rfl)
    | ((with_reducible apply n_store); rfl; rfl; rfl; rfl; rfl)
    | ((with_reducible apply fnQ_told_ret); rfl)
    | ((with_reducible apply fnQ_ret_soft); rfl; rfl)
  rfl
theorem eOutS_eq (e f : Option (List S8)) : (eOn e == eOn f && (eV e).map (S8.i) == (eV f).map (S8.i)) = decide (e = f) := by
  rw [Bool.eq_iff_iff, decide_eq_true_eq, Bool.and_eq_true, beq_iff_eq, beq_iff_eq]
  constructor
  · rintro ⟨h1, h2⟩
    rw [← eAbs_outS e, ← eAbs_outS f, h1, h2]
  · rintro rfl; exact ⟨rfl, rfl⟩
theorem p_sameS (e f : Option (List S8)) (he : Few e) : Pure Go.Proofs.Try.prog gl 21 [eOut ps e, eOut ps f] (.bool (decide (e = f))) := by
  rw [eOutS_in, eOutS_in, ← eOutS_eq]
  exact p_sames4 _ _ _ _ (by unfold Few at he; rw [List.length_map]; omega)
theorem p_theirS (e : Option (List S8)) (he : Few e) : Pure Go.Proofs.Try.prog gl 22 [eOut ps e] (eOut ps e) := by
  rw [eOutS_in]
  exact p_theirs4 _ _ (by unfold Few at he; rw [List.length_map]; omega)
theorem p_rs4_GetSign {p : PV} {e : Option (List S8)} (i : Int) (h : RepE pi s8 p e) : Pure Go.Proofs.Try.prog gl 32 [p, .int .i64 i] (ps (eGet z8 e i)) := by
  obtain ⟨on, l, rfl, rfl, hl⟩ := h
  exact p_refs4_get ..
theorem p_rs4_SetSign {p : PV} {e : Option (List S8)} (i : Int) (c : I64) (h : RepE pi s8 p e) : Pure Go.Proofs.Try.prog gl 36 [p, .int .i64 i, pi c] (eOut ps (eSet e i (s8 c))) := by
  obtain ⟨on, l, rfl, rfl, hl⟩ := h
  exact p_refs4_set _ _ _ _ (by omega)
theorem p_rs4_JoinSign {p q : PV} {e f : Option (List S8)} (h : RepE pi s8 p e) (k : RepE pi s8 q f) : Pure Go.Proofs.Try.prog gl 34 [p, q] (eOut ps (eJoin z8 S8.join e f)) := by
  obtain ⟨on, l, rfl, rfl, hl⟩ := h
  obtain ⟨on', l', rfl, rfl, hl'⟩ := k
  exact p_refs4_join _ _ _ _ (by omega) (by omega)
theorem p_rs4_LeqSign {p q : PV} {e f : Option (List S8)} (h : RepE pi s8 p e) (k : RepE pi s8 q f) : Pure Go.Proofs.Try.prog gl 33 [p, q] (.bool (eLeq z8 S8.leq e f)) := by
  obtain ⟨on, l, rfl, rfl, hl⟩ := h
  obtain ⟨on', l', rfl, rfl, hl'⟩ := k
  exact p_refs4_leq _ _ _ _ (by omega) (by omega)
end

end Go.Vm
