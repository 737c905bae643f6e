/- Laid. -/
import Derived.Test.YtlcbceneacnaiaaDoorCinstrE
import Derived.Test.YtlcbceneacnaiaaDoorWinstrD
/- Walks. -/
set_option maxRecDepth 100000
set_option linter.unusedSimpArgs false
set_option linter.unusedVariables false
namespace Go.Vm
open Go

set_option maxHeartbeats 4000000
theorem p_bare (i : In) (hn : 0 ≤ i.n ∧ i.n ≤ 3) : Pure Go.Proofs.Tryd.prog glD 43 [pI i] (pI (bareI i)) := by
  have d := p_hasD i
  have a := p_hasA i
  have b := p_hasB i
  have c := p_hasC i
  have f := p_hasF i
  obtain ⟨id, k, dst, va, vb, vc, vf, n, x, y, z⟩ := i
  simp only at hn d a b c f
  refine Pure.fn hmix b43 ?_
  rcases kind_cases k with rfl | rfl | rfl | rfl | rfl | rfl | rfl | h7 | rfl | rfl | h
  case inr.inr.inr.inr.inr.inr.inr.inl =>
    subst h7
    rcases (by omega : n = 0 ∨ n = 1 ∨ n = 2 ∨ n = 3) with rfl | rfl | rfl | rfl
    all_goals
      repeat' first
        | with_reducible refine tr_seq ?_
        | ((with_reducible refine tr_region_f ?_ ?_); kernel_rfl)
        | with_reducible refine n_nil ?_
        | with_reducible refine seqQ_normal ?_
        | with_reducible refine seqQ_ret ?_
        | with_reducible refine blkQ_ret ?_
        | with_reducible refine tr_skip ?_
        | with_reducible refine tr_ret ?_
        | ((with_reducible apply tr_cond_e); rfl)
        | with_reducible refine condT_t ?_
        | with_reducible refine condT_f ?_
        | ((with_reducible refine condT_T ?_ ?_); decide +kernel)
        | ((with_reducible refine condT_F ?_ ?_); decide +kernel)
        | ((with_reducible apply n_andF); rfl; rfl; decide +kernel)
        | ((with_reducible apply n_orT); rfl; rfl; decide +kernel)
        | with_reducible refine unrQ_normal ?_
        | with_reducible refine unrQ_exit ?_
        | with_reducible refine unrQ_ret ?_
        | ((with_reducible apply n_call (f := 33)); rfl; rfl; (first | exact d | exact a | exact b | exact c | exact f))
        | ((with_reducible apply n_eprim); rfl)
        | ((with_reducible apply n_val); rfl; rfl)
        | ((with_reducible apply n_new); rfl; (first | (simp only [hn0, hn1, hn2, hn3, hn4, hn5, List.length_cons, List.length_nil, Nat.reduceAdd, Nat.zero_add]; done) | (simp only [hn0, hn1, hn2, hn3, hn4, hn5, List.length_cons, List.length_nil, Nat.reduceAdd, Nat.zero_add]; rfl) | rfl); rfl)
        | ((with_reducible apply n_store); rfl; rfl; rfl; rfl; rfl)
        | ((with_reducible apply n_call (f := 62)); rfl; rfl; exact p_without ..)
        | (with_reducible refine condT_split (fun h => ?_) (fun h => ?_))
        | ((with_reducible apply fnQ_told_ret); rfl)
        | ((with_reducible apply fnQ_ret_soft); rfl; rfl)
      rfl
  case inr.inr.inr.inr.inr.inr.inr.inr.inr.inr =>
    have e1 : hD k = false := by simp [hD]; omega
    have e2 : hA k = false := by simp [hA]; omega
    have e3 : hB k = false := by simp [hB]; omega
    have e4 : hC k = false := by simp [hC]; omega
    have e5 : hF k = false := by simp [hF]; omega
    rw [e1] at d
    rw [e2] at a
    rw [e3] at b
    rw [e4] at c
    rw [e5] at f
    repeat' first
      | with_reducible refine tr_seq ?_
      | ((with_reducible refine tr_region_f ?_ ?_); kernel_rfl)
      | with_reducible refine n_nil ?_
      | with_reducible refine seqQ_normal ?_
      | with_reducible refine seqQ_ret ?_
      | with_reducible refine blkQ_ret ?_
      | with_reducible refine tr_skip ?_
      | with_reducible refine tr_ret ?_
      | ((with_reducible apply tr_cond_e); rfl)
      | with_reducible refine condT_t ?_
      | with_reducible refine condT_f ?_
      | ((with_reducible refine condT_T ?_ ?_); decide +kernel)
      | ((with_reducible refine condT_F ?_ ?_); decide +kernel)
      | ((with_reducible apply n_andF); rfl; rfl; decide +kernel)
      | ((with_reducible apply n_orT); rfl; rfl; decide +kernel)
      | with_reducible refine unrQ_normal ?_
      | with_reducible refine unrQ_exit ?_
      | with_reducible refine unrQ_ret ?_
      | ((with_reducible apply n_call (f := 33)); rfl; rfl; (first | exact d | exact a | exact b | exact c | exact f))
      | ((with_reducible apply n_val); rfl; rfl)
      | ((with_reducible apply n_new); rfl; (first | (simp only [hn0, hn1, hn2, hn3, hn4, hn5, List.length_cons, List.length_nil, Nat.reduceAdd, Nat.zero_add]; done) | (simp only [hn0, hn1, hn2, hn3, hn4, hn5, List.length_cons, List.length_nil, Nat.reduceAdd, Nat.zero_add]; rfl) | rfl); rfl)
      | ((with_reducible apply n_store); rfl; rfl; rfl; rfl; rfl)
      | ((with_reducible apply n_call (f := 62)); rfl; rfl; exact p_without ..)
      | (with_reducible refine condT_split (fun h => ?_) (fun h => ?_))
      | ((with_reducible apply fnQ_told_ret); rfl)
      | ((with_reducible apply fnQ_ret_soft); rfl; rfl)
    simp [bareI, e1, e2, e3, e4, e5]
  all_goals
    repeat' first
      | with_reducible refine tr_seq ?_
      | ((with_reducible refine tr_region_f ?_ ?_); kernel_rfl)
      | with_reducible refine n_nil ?_
      | with_reducible refine seqQ_normal ?_
      | with_reducible refine seqQ_ret ?_
      | with_reducible refine blkQ_ret ?_
      | with_reducible refine tr_skip ?_
      | with_reducible refine tr_ret ?_
      | ((with_reducible apply tr_cond_e); rfl)
      | with_reducible refine condT_t ?_
      | with_reducible refine condT_f ?_
      | ((with_reducible refine condT_T ?_ ?_); decide +kernel)
      | ((with_reducible refine condT_F ?_ ?_); decide +kernel)
      | ((with_reducible apply n_andF); rfl; rfl; decide +kernel)
      | ((with_reducible apply n_orT); rfl; rfl; decide +kernel)
      | with_reducible refine unrQ_normal ?_
      | with_reducible refine unrQ_exit ?_
      | with_reducible refine unrQ_ret ?_
      | ((with_reducible apply n_call (f := 33)); rfl; rfl; (first | exact d | exact a | exact b | exact c | exact f))
      | ((with_reducible apply n_val); rfl; rfl)
      | ((with_reducible apply n_new); rfl; (first | (simp only [hn0, hn1, hn2, hn3, hn4, hn5, List.length_cons, List.length_nil, Nat.reduceAdd, Nat.zero_add]; done) | (simp only [hn0, hn1, hn2, hn3, hn4, hn5, List.length_cons, List.length_nil, Nat.reduceAdd, Nat.zero_add]; rfl) | rfl); rfl)
      | ((with_reducible apply n_store); rfl; rfl; rfl; rfl; rfl)
      | ((with_reducible apply n_call (f := 62)); rfl; rfl; exact p_without ..)
      | (with_reducible refine condT_split (fun h => ?_) (fun h => ?_))
      | ((with_reducible apply fnQ_told_ret); rfl)
      | ((with_reducible apply fnQ_ret_soft); rfl; rfl)
    rfl
theorem p_slMin (a b c : Int) : Pure Go.Proofs.Tryd.prog glD 42 [.sl [.int .i64 a, .int .i64 b, .int .i64 c]] (.int .i64 (min (min a b) c)) := by
  refine Pure.fn hmix b42 ?_
  repeat' first
    | with_reducible refine tr_seq ?_
    | ((with_reducible refine tr_region_f ?_ ?_); kernel_rfl)
    | with_reducible refine n_nil ?_
    | with_reducible refine seqQ_normal ?_
    | with_reducible refine seqQ_exit ?_
    | with_reducible refine seqQ_ret ?_
    | with_reducible refine blkQ_normal ?_
    | with_reducible refine blkQ_exit ?_
    | with_reducible refine blkQ_ret ?_
    | ((with_reducible refine blkQ_exit_ne ?_ ?_); rfl)
    | with_reducible refine tr_block ?_
    | with_reducible refine tr_skip ?_
    | with_reducible refine tr_exit ?_
    | with_reducible refine tr_ret ?_
    | ((with_reducible apply tr_cond_e); rfl)
    | with_reducible refine condT_t ?_
    | with_reducible refine condT_f ?_
    | ((with_reducible refine condT_T ?_ ?_); exact rfl)
    | ((with_reducible refine condT_F ?_ ?_); exact rfl)
    | ((with_reducible refine condT_T ?_ ?_); decide +kernel)
    | ((with_reducible refine condT_F ?_ ?_); decide +kernel)
    | ((with_reducible apply n_andF); rfl; rfl; decide +kernel)
    | ((with_reducible apply n_orT); rfl; rfl; decide +kernel)
    | with_reducible refine loopV_exit ?_
    | with_reducible refine loopV_ret ?_
    | with_reducible refine unrQ_normal ?_
    | with_reducible refine unrQ_exit ?_
    | with_reducible refine unrQ_ret ?_
    | refine tr_unroll 4 ?_
    | ((with_reducible apply n_min); rfl; rfl)
    | ((with_reducible apply n_val); rfl; rfl)
    | ((with_reducible apply n_nope); (first | omega | (simp only [decide_eq_true_eq, decide_eq_false_iff_not, Bool.or_eq_true, Bool.and_eq_true, Bool.or_eq_false_iff, Bool.not_eq_true', Bool.not_eq_false'] at *; omega) | (simp_all; done) | (simp_all; omega)))
    | (with_reducible refine condT_split (fun h => ?_) (fun h => ?_))
    | ((with_reducible apply fnQ_told_ret); rfl)
    | ((with_reducible apply fnQ_ret_soft); rfl; rfl)
  rfl
theorem p_Form (i : In) : Pure Go.Proofs.Tryd.prog glD 16 [pI i] (.bool (form i)) := by
  refine Pure.fn hmix b16 ?_
  repeat' first
    | with_reducible refine tr_seq ?_
    | ((with_reducible refine tr_region_f ?_ ?_); kernel_rfl)
    | ((with_reducible refine tr_region_t ?_ ?_ ?_); kernel_rfl; kernel_rfl)
    | with_reducible refine n_nil ?_
    | exact ⟨rfl, rfl⟩
    | with_reducible refine seqQ_normal ?_
    | with_reducible refine seqQ_ret ?_
    | with_reducible refine blkQ_ret ?_
    | with_reducible refine tr_skip ?_
    | with_reducible refine tr_ret ?_
    | ((with_reducible apply tr_cond_e); rfl)
    | with_reducible refine condT_t ?_
    | with_reducible refine condT_f ?_
    | ((with_reducible apply n_and); rfl; rfl; intro h)
    | ((with_reducible apply n_or); rfl; rfl; intro h)
    | ((with_reducible apply n_min5); rfl; rfl; rfl; rfl; rfl)
    | ((with_reducible apply n_val); rfl; rfl)
    | ((with_reducible apply n_new); rfl; (first | (simp only [hn0, hn1, hn2, hn3, hn4, hn5, List.length_cons, List.length_nil, Nat.reduceAdd, Nat.zero_add]; done) | (simp only [hn0, hn1, hn2, hn3, hn4, hn5, List.length_cons, List.length_nil, Nat.reduceAdd, Nat.zero_add]; rfl) | rfl); rfl)
    | ((with_reducible apply n_eqs_f); rfl; rfl; rfl)
    | ((with_reducible apply n_call (f := 23)); rfl; rfl; exact p_instr_Name ..)
    | ((with_reducible apply n_callb (f := 42)); rfl; rfl; exact p_slMin ..; rfl)
    | ((with_reducible apply n_call (f := 43)); rfl; rfl; exact p_bare _ (by simp only [Bool.or_eq_false_iff, decide_eq_false_iff_not] at *; omega))
    | (with_reducible refine condT_split (fun h => ?_) (fun h => ?_))
    | ((with_reducible apply fnQ_told_ret); rfl)
    | ((with_reducible apply fnQ_ret_soft); rfl; rfl)
  · rw [form_f h]
  · rw [form_t h, ← eq_i0]
theorem p_Def (i : In) : Pure Go.Proofs.Tryd.prog glD 13 [pI i] (.int .i64 (defI i)) := by
  refine Pure.fn hmix b13 ?_
  repeat' first
    | with_reducible refine tr_seq ?_
    | ((with_reducible refine tr_region_f ?_ ?_); kernel_rfl)
    | with_reducible refine n_nil ?_
    | exact ⟨rfl, rfl⟩
    | with_reducible refine seqQ_normal ?_
    | with_reducible refine seqQ_ret ?_
    | with_reducible refine blkQ_ret ?_
    | with_reducible refine tr_skip ?_
    | with_reducible refine tr_ret ?_
    | ((with_reducible apply tr_cond_e); rfl)
    | with_reducible refine condT_t ?_
    | with_reducible refine condT_f ?_
    | ((with_reducible apply n_and); rfl; rfl; intro h)
    | ((with_reducible apply n_or); rfl; rfl; intro h)
    | ((with_reducible apply n_val); rfl; rfl)
    | ((with_reducible apply n_new); rfl; (first | (simp only [hn0, hn1, hn2, hn3, hn4, hn5, List.length_cons, List.length_nil, Nat.reduceAdd, Nat.zero_add]; done) | (simp only [hn0, hn1, hn2, hn3, hn4, hn5, List.length_cons, List.length_nil, Nat.reduceAdd, Nat.zero_add]; rfl) | rfl); rfl)
    | ((with_reducible apply n_call (f := 33)); rfl; rfl; exact p_hasD ..)
    | ((with_reducible apply n_call (f := 16)); rfl; rfl; exact p_Form ..)
    | (with_reducible refine condT_split (fun h => ?_) (fun h => ?_))
    | ((with_reducible apply fnQ_told_ret); rfl)
    | ((with_reducible apply fnQ_ret_soft); rfl; rfl)
  · refine congrArg _ ?_
    rw [defI, if_neg]
    cases h1 : form i <;> cases h2 : hD i.kind <;> simp_all
  · refine congrArg _ ?_
    rw [defI, if_pos]
    cases h1 : form i <;> cases h2 : hD i.kind <;> simp_all

end Go.Vm
