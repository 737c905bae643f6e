/- Walks. -/
import Derived.Test.YtjegabeechopdaaCsignA
import Derived.Test.YtjegabeechopdaaWflatB
import Derived.Test.YtjegabeechopdaaLSign
set_option maxRecDepth 100000
set_option linter.unusedSimpArgs false
set_option linter.unusedVariables false
namespace Go.Vm
open Go

section
variable {gl : Nat → Option PV}
set_option maxHeartbeats 4000000

theorem p_sign_Sane (s : Int) (h : i64r s) : Pure Go.Proofs.Try.prog gl 54 [.int .i64 s] (.bool (decide (0 ≤ s ∧ s ≤ 7))) := by
  refine Pure.fn hmix b54 ?_
  repeat' first
    | with_reducible refine tr_seq ?_
    | ((with_reducible refine tr_region_f ?_ ?_); kernel_rfl)
    | with_reducible refine n_nil ?_
    | with_reducible refine seqQ_normal ?_
    | with_reducible refine seqQ_ret ?_
    | with_reducible refine blkQ_ret ?_
    | with_reducible refine tr_ret ?_
    | ((with_reducible apply n_val); rfl; rfl)
    | ((with_reducible apply fnQ_ret_soft); rfl; rfl)
  exact congrArg PV.bool (sane_bits s h)

theorem p_sign_sane (s : Int) (h : i64r s) : Pure Go.Proofs.Try.prog gl 97 [.int .i64 s] (.int .i64 (sn s)) := by
  refine Pure.fn hmix b97 ?_
  repeat' first
    | with_reducible refine tr_seq ?_
    | ((with_reducible refine tr_region_f ?_ ?_); kernel_rfl)
    | with_reducible refine n_nil ?_
    | with_reducible refine seqQ_normal ?_
    | with_reducible refine seqQ_ret ?_
    | with_reducible refine blkQ_ret ?_
    | with_reducible refine tr_skip ?_
    | with_reducible refine tr_ret ?_
    | ((with_reducible apply tr_cond_e); rfl)
    | with_reducible refine condT_t ?_
    | with_reducible refine condT_f ?_
    | ((with_reducible apply n_val); rfl; rfl)
    | ((with_reducible apply n_call (f := 54)); rfl; rfl; exact p_sign_Sane _ h)
    | (with_reducible refine condT_split (fun h => ?_) (fun h => ?_))
    | ((with_reducible apply fnQ_ret_soft); rfl; rfl)
  all_goals (simp_all [sn]; try omega)

theorem p_sign_Of (c : Int) : Pure Go.Proofs.Try.prog gl 45 [.int .i64 c] (.int .i64 (sOf c)) := by
  refine Pure.fn hmix b45 ?_
  repeat' first
    | with_reducible refine tr_seq ?_
    | ((with_reducible refine tr_region_f ?_ ?_); kernel_rfl)
    | with_reducible refine n_nil ?_
    | with_reducible refine seqQ_normal ?_
    | with_reducible refine seqQ_ret ?_
    | with_reducible refine blkQ_normal ?_
    | with_reducible refine blkQ_ret ?_
    | with_reducible refine tr_block ?_
    | with_reducible refine tr_skip ?_
    | with_reducible refine tr_ret ?_
    | ((with_reducible apply tr_cond_e); rfl)
    | with_reducible refine condT_t ?_
    | with_reducible refine condT_f ?_
    | ((with_reducible apply n_val); rfl; rfl)
    | (with_reducible refine condT_split (fun h => ?_) (fun h => ?_))
    | ((with_reducible apply fnQ_ret_soft); rfl; rfl)
  all_goals (simp_all [sOf]; try omega)

theorem p_sign_Join (a b : Int) (ha : i64r a) (hb : i64r b) : Pure Go.Proofs.Try.prog gl 46 [.int .i64 a, .int .i64 b] (.int .i64 (sJoin a b)) := by
  refine Pure.fn hmix b46 ?_
  repeat' first
    | with_reducible refine tr_seq ?_
    | ((with_reducible refine tr_region_f ?_ ?_); kernel_rfl)
    | with_reducible refine n_nil ?_
    | with_reducible refine seqQ_normal ?_
    | with_reducible refine seqQ_ret ?_
    | with_reducible refine blkQ_ret ?_
    | with_reducible refine tr_ret ?_
    | ((with_reducible apply n_val); rfl; rfl)
    | ((with_reducible apply n_call (f := 97)); rfl; rfl; exact p_sign_sane _ ha)
    | ((with_reducible apply n_call (f := 97)); rfl; rfl; exact p_sign_sane _ hb)
    | ((with_reducible apply fnQ_ret_soft); rfl; rfl)
  rfl

theorem p_sign_Leq (a b : Int) (ha : i64r a) (hb : i64r b) : Pure Go.Proofs.Try.prog gl 44 [.int .i64 a, .int .i64 b] (.bool (sLeq a b)) := by
  refine Pure.fn hmix b44 ?_
  repeat' first
    | with_reducible refine tr_seq ?_
    | ((with_reducible refine tr_region_f ?_ ?_); kernel_rfl)
    | with_reducible refine n_nil ?_
    | with_reducible refine seqQ_normal ?_
    | with_reducible refine seqQ_ret ?_
    | with_reducible refine blkQ_ret ?_
    | with_reducible refine tr_ret ?_
    | ((with_reducible apply n_val); rfl; rfl)
    | ((with_reducible apply n_call (f := 97)); rfl; rfl; exact p_sign_sane _ ha)
    | ((with_reducible apply n_call (f := 97)); rfl; rfl; exact p_sign_sane _ hb)
    | ((with_reducible apply fnQ_ret_soft); rfl; rfl)
  rfl

theorem p_sign_List (s : Int) (h : i64r s) : Pure Go.Proofs.Try.prog gl 52 [.int .i64 s] (.sl (ints (sList s))) := by
  have hs := p_sign_sane (gl := gl) s h
  have hc := sn_cases s
  have hl : sList s = sList (sn s) := by simp [sList, sn_sn]
  rw [hl]
  generalize sn s = n at *
  refine Pure.fn hmix b52 ?_
  rcases hc with rfl | rfl | rfl | rfl | rfl | rfl | rfl | rfl
  all_goals
    repeat' first
      | with_reducible refine tr_seq ?_
      | ((with_reducible refine tr_region_f ?_ ?_); kernel_rfl)
      | with_reducible refine n_nil ?_
      | with_reducible refine seqQ_normal ?_
      | with_reducible refine seqQ_exit ?_
      | with_reducible refine seqQ_ret ?_
      | with_reducible refine blkQ_normal ?_
      | with_reducible refine blkQ_exit ?_
      | with_reducible refine blkQ_ret ?_
      | ((with_reducible refine blkQ_exit_ne ?_ ?_); rfl)
      | with_reducible refine tr_block ?_
      | with_reducible refine tr_skip ?_
      | with_reducible refine tr_exit ?_
      | with_reducible refine tr_ret ?_
      | ((with_reducible apply tr_cond_e); rfl)
      | with_reducible refine condT_t ?_
      | with_reducible refine condT_f ?_
      | ((with_reducible refine condT_T ?_ ?_); decide +kernel)
      | ((with_reducible refine condT_F ?_ ?_); decide +kernel)
      | ((with_reducible apply n_andF); rfl; rfl; decide +kernel)
      | ((with_reducible apply n_orT); rfl; rfl; decide +kernel)
      | with_reducible refine loopV_exit ?_
      | with_reducible refine loopV_ret ?_
      | with_reducible refine unrQ_normal ?_
      | with_reducible refine unrQ_exit ?_
      | with_reducible refine unrQ_ret ?_
      | refine tr_unroll 4 ?_
      | refine n_call rfl rfl hs ?_
      | ((with_reducible apply n_append_lit); rfl; rfl; rfl; rfl; rfl; decide; (simp only [hn0, hn1, hn2, List.length_cons, List.length_nil, Nat.reduceAdd, Nat.zero_add]; try rfl); rfl)
      | ((with_reducible apply n_append); rfl; rfl; rfl; rfl; rfl; rfl; decide; rfl)
      | ((with_reducible apply n_val); rfl; rfl)
      | ((with_reducible apply n_append); rfl; rfl; rfl; rfl; rfl; rfl; (first | decide | (simp only [List.length_append, List.length_cons, List.length_nil, List.length_set, List.length_replicate, ints_length] at *; omega)); rfl)
      | ((with_reducible apply n_append_lit); rfl; rfl; rfl; rfl; rfl; (first | decide | (simp only [List.length_append, List.length_cons, List.length_nil, List.length_set, List.length_replicate, ints_length] at *; omega)); (first | (simp only [hn0, hn1, hn2, hn3, hn4, List.length_cons, List.length_nil, Nat.reduceAdd, Nat.zero_add]; done) | (simp only [hn0, hn1, hn2, hn3, hn4, List.length_cons, List.length_nil, Nat.reduceAdd, Nat.zero_add]; rfl) | rfl); rfl)
      | (with_reducible refine condT_split (fun h => ?_) (fun h => ?_))
      | ((with_reducible apply fnQ_ret_soft); rfl; rfl)
      | ((with_reducible apply fnQ_ret_row); rfl; rfl; rfl)
  all_goals rfl
end

end Go.Vm
