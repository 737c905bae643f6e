/- Walks. -/
import Derived.Test.YtjegabeechopdaaCflatC
import Derived.Test.YtjegabeechopdaaWflatB
set_option maxRecDepth 100000
set_option linter.unusedSimpArgs false
set_option linter.unusedVariables false
namespace Go.Vm
open Go

section
variable {gl : Nat → Option PV}

theorem p_law02_awake : Pure Go.Proofs.Try.prog gl 20 [] (.bool true) := by
  refine Pure.of hmix b20 (wp_fn ?_)
  repeat' first
    | refine wp_seq' ?_
    | refine wp_region_f ?_
    | refine wp_region_t (by kernel_rfl) ?_
    | (refine ops_nil ?_; try simp only [Hp.n_none, Hp.n_app, Hp.n_add, Hp.n_set, Hp.n_addH, PV.cells_agg, PV.cells_int, PV.cells_bool, Env.put_none, Hp.app_one, List.length_cons, List.length_nil, Nat.reduceAdd, List.take_succ_cons, List.take_zero, List.set_cons_zero, List.drop_zero, Nat.add_zero, Nat.zero_add])
    | refine seqQ_normal ?_
    | refine seqQ_exit ?_
    | refine seqQ_ret ?_
    | refine blkQ_normal ?_
    | refine blkQ_exit ?_
    | refine blkQ_ret ?_
    | refine blkQ_exit_ne rfl ?_
    | refine wp_block' ?_
    | refine wp_skip' ?_
    | refine wp_exit' ?_
    | refine wp_ret' ?_
    | refine ops_val rfl rfl ?_
    | refine ops_plain rfl rfl ?_
    | refine ops_store_ptr rfl rfl rfl rfl rfl ?_
    | refine ops_eqs_f rfl rfl rfl ?_
    | refine ops_eqs_t rfl rfl rfl ?_
    | refine ops_guard rfl ?_
    | refine wp_cond_e rfl ?_
    | with_reducible refine guardK_tt ?_
    | with_reducible refine guardK_ff ?_
    | with_reducible refine guardK_tf ?_
    | with_reducible refine guardK_ft ?_
    | with_reducible refine condK_t ?_
    | with_reducible refine condK_f ?_
    | refine ops_call (f := 26) rfl rfl (p_flat_Of ..) ?_
    | refine ops_call (f := 27) rfl rfl (p_flat_Add ..) ?_
    | refine ops_call (f := 22) rfl rfl (p_flat_Join ..) ?_
    | refine ops_call (f := 25) rfl rfl (p_flat_Height ..) ?_
    | (refine condK_split (fun h => ?_) (fun h => ?_) <;> first | exact (bool_contra h (by assumption)).elim | exact (bool_contra (by assumption) h).elim | exact (bool_contra h (by decide)).elim | exact (bool_contra (by decide) h).elim | rw [h])
    | (refine guardK_split (fun h => ?_) (fun h => ?_) <;> first | exact (bool_contra h (by assumption)).elim | exact (bool_contra (by assumption) h).elim | exact (bool_contra h (by decide)).elim | exact (bool_contra (by decide) h).elim | rw [h])
    | refine fnQ_ret_soft rfl rfl ?_
    | refine fnQ_normal_soft rfl rfl ?_
  all_goals simp_all only [toV_kc]
  all_goals rfl
theorem p_law02_ours (k c : Int) : Pure Go.Proofs.Try.prog gl 21 [.agg [.int .i64 k, .int .i64 c]] (.agg [.int .i64 k, .int .i64 c]) := by
  refine Pure.of hmix b21 (wp_fn ?_)
  repeat' first
    | refine wp_seq' ?_
    | refine wp_region_f ?_
    | refine wp_region_t (by kernel_rfl) ?_
    | (refine ops_nil ?_; try simp only [Hp.n_none, Hp.n_app, Hp.n_add, Hp.n_set, Hp.n_addH, PV.cells_agg, PV.cells_int, PV.cells_bool, Env.put_none, Hp.app_one, List.length_cons, List.length_nil, Nat.reduceAdd, List.take_succ_cons, List.take_zero, List.set_cons_zero, List.drop_zero, Nat.add_zero, Nat.zero_add])
    | refine seqQ_normal ?_
    | refine seqQ_exit ?_
    | refine seqQ_ret ?_
    | refine blkQ_normal ?_
    | refine blkQ_exit ?_
    | refine blkQ_ret ?_
    | refine blkQ_exit_ne rfl ?_
    | refine wp_block' ?_
    | refine wp_skip' ?_
    | refine wp_exit' ?_
    | refine wp_ret' ?_
    | refine ops_val rfl rfl ?_
    | refine ops_plain rfl rfl ?_
    | refine ops_store_ptr rfl rfl rfl rfl rfl ?_
    | refine ops_eqs_f rfl rfl rfl ?_
    | refine ops_eqs_t rfl rfl rfl ?_
    | refine ops_guard rfl ?_
    | refine wp_cond_e rfl ?_
    | with_reducible refine guardK_tt ?_
    | with_reducible refine guardK_ff ?_
    | with_reducible refine guardK_tf ?_
    | with_reducible refine guardK_ft ?_
    | with_reducible refine condK_t ?_
    | with_reducible refine condK_f ?_
    | (refine condK_split (fun h => ?_) (fun h => ?_) <;> first | exact (bool_contra h (by assumption)).elim | exact (bool_contra (by assumption) h).elim | exact (bool_contra h (by decide)).elim | exact (bool_contra (by decide) h).elim | rw [h])
    | (refine guardK_split (fun h => ?_) (fun h => ?_) <;> first | exact (bool_contra h (by assumption)).elim | exact (bool_contra (by assumption) h).elim | exact (bool_contra h (by decide)).elim | exact (bool_contra (by decide) h).elim | rw [h])
    | refine fnQ_ret_soft rfl rfl ?_
    | refine fnQ_normal_soft rfl rfl ?_
  rfl
theorem p_law02_theirs (k c : Int) : Pure Go.Proofs.Try.prog gl 32 [.agg [.int .i64 k, .int .i64 c]] (.agg [.int .i64 k, .int .i64 c]) := by
  refine Pure.of hmix b32 (wp_fn ?_)
  repeat' first
    | refine wp_seq' ?_
    | refine wp_region_f ?_
    | refine wp_region_t (by kernel_rfl) ?_
    | (refine ops_nil ?_; try simp only [Hp.n_none, Hp.n_app, Hp.n_add, Hp.n_set, Hp.n_addH, PV.cells_agg, PV.cells_int, PV.cells_bool, Env.put_none, Hp.app_one, List.length_cons, List.length_nil, Nat.reduceAdd, List.take_succ_cons, List.take_zero, List.set_cons_zero, List.drop_zero, Nat.add_zero, Nat.zero_add])
    | refine seqQ_normal ?_
    | refine seqQ_exit ?_
    | refine seqQ_ret ?_
    | refine blkQ_normal ?_
    | refine blkQ_exit ?_
    | refine blkQ_ret ?_
    | refine blkQ_exit_ne rfl ?_
    | refine wp_block' ?_
    | refine wp_skip' ?_
    | refine wp_exit' ?_
    | refine wp_ret' ?_
    | refine ops_val rfl rfl ?_
    | refine ops_plain rfl rfl ?_
    | refine ops_store_ptr rfl rfl rfl rfl rfl ?_
    | refine ops_eqs_f rfl rfl rfl ?_
    | refine ops_eqs_t rfl rfl rfl ?_
    | refine ops_guard rfl ?_
    | refine wp_cond_e rfl ?_
    | with_reducible refine guardK_tt ?_
    | with_reducible refine guardK_ff ?_
    | with_reducible refine guardK_tf ?_
    | with_reducible refine guardK_ft ?_
    | with_reducible refine condK_t ?_
    | with_reducible refine condK_f ?_
    | (refine condK_split (fun h => ?_) (fun h => ?_) <;> first | exact (bool_contra h (by assumption)).elim | exact (bool_contra (by assumption) h).elim | exact (bool_contra h (by decide)).elim | exact (bool_contra (by decide) h).elim | rw [h])
    | (refine guardK_split (fun h => ?_) (fun h => ?_) <;> first | exact (bool_contra h (by assumption)).elim | exact (bool_contra (by assumption) h).elim | exact (bool_contra h (by decide)).elim | exact (bool_contra (by decide) h).elim | rw [h])
    | refine fnQ_ret_soft rfl rfl ?_
    | refine fnQ_normal_soft rfl rfl ?_
  rfl
set_option maxHeartbeats 4000000 in
theorem l_FlatIs (k c k' c' n : Int) : Pure Go.Proofs.Try.prog gl 7 [.agg [.int .i64 k, .int .i64 c], .agg [.int .i64 k', .int .i64 c'], .int .i64 n] (.bool true) := by
  refine Pure.of hmix b7 (wp_fn ?_)
  repeat' first
    | refine wp_seq' ?_
    | refine wp_region_f ?_
    | refine wp_region_t (by kernel_rfl) ?_
    | (refine ops_nil ?_; try simp only [Hp.n_none, Hp.n_app, Hp.n_add, Hp.n_set, Hp.n_addH, PV.cells_agg, PV.cells_int, PV.cells_bool, Env.put_none, Hp.app_one, List.length_cons, List.length_nil, Nat.reduceAdd, List.take_succ_cons, List.take_zero, List.set_cons_zero, List.drop_zero, Nat.add_zero, Nat.zero_add])
    | refine seqQ_normal ?_
    | refine seqQ_exit ?_
    | refine seqQ_ret ?_
    | refine blkQ_normal ?_
    | refine blkQ_exit ?_
    | refine blkQ_ret ?_
    | refine blkQ_exit_ne rfl ?_
    | refine wp_block' ?_
    | refine wp_skip' ?_
    | refine wp_exit' ?_
    | refine wp_ret' ?_
    | refine ops_val rfl rfl ?_
    | refine ops_plain rfl rfl ?_
    | refine ops_store_ptr rfl rfl rfl rfl rfl ?_
    | refine ops_eqs_f rfl rfl rfl ?_
    | refine ops_eqs_t rfl rfl rfl ?_
    | refine ops_guard rfl ?_
    | refine wp_cond_e rfl ?_
    | with_reducible refine guardK_tt ?_
    | with_reducible refine guardK_ff ?_
    | with_reducible refine guardK_tf ?_
    | with_reducible refine guardK_ft ?_
    | with_reducible refine condK_t ?_
    | with_reducible refine condK_f ?_
    | refine ops_call (f := 20) rfl rfl (p_law02_awake) ?_
    | refine ops_call (f := 21) rfl rfl (p_law02_ours ..) ?_
    | refine ops_call (f := 32) rfl rfl (p_law02_theirs ..) ?_
    | refine ops_call (f := 24) rfl rfl (p_flat_Sane ..) ?_
    | refine ops_call (f := 31) rfl rfl (p_rflat_Sane ..) ?_
    | refine ops_call (f := 22) rfl rfl (p_flat_Join ..) ?_
    | refine ops_call (f := 33) rfl rfl (p_rflat_Join ..) ?_
    | refine ops_call (f := 23) rfl rfl (p_flat_Leq ..) ?_
    | refine ops_call (f := 34) rfl rfl (p_rflat_Leq ..) ?_
    | refine ops_call (f := 35) rfl rfl (p_flat_Wrap ..) ?_
    | refine ops_call (f := 36) rfl rfl (p_rflat_Wrap ..) ?_
    | refine ops_call (f := 26) rfl rfl (p_flat_Of ..) ?_
    | refine ops_call (f := 37) rfl rfl (p_rflat_Of ..) ?_
    | refine ops_call (f := 25) rfl rfl (p_flat_Height ..) ?_
    | refine ops_call (f := 38) rfl rfl (p_rflat_Height ..) ?_
    | refine ops_call (f := 29) rfl rfl (p_flat_Neg ..) ?_
    | refine ops_call (f := 39) rfl rfl (p_rflat_Neg ..) ?_
    | refine ops_call (f := 27) rfl rfl (p_flat_Add ..) ?_
    | refine ops_call (f := 40) rfl rfl (p_rflat_Add ..) ?_
    | refine ops_call (f := 28) rfl rfl (p_flat_Sub ..) ?_
    | refine ops_call (f := 41) rfl rfl (p_rflat_Sub ..) ?_
    | refine ops_call (f := 30) rfl rfl (p_flat_Mul ..) ?_
    | refine ops_call (f := 42) rfl rfl (p_rflat_Mul ..) ?_
    | (refine condK_split (fun h => ?_) (fun h => ?_) <;> first | exact (bool_contra h (by assumption)).elim | exact (bool_contra (by assumption) h).elim | exact (bool_contra h (by decide)).elim | exact (bool_contra (by decide) h).elim | (simp only [reduceCtorEq, beq_self_eq_true, bne_self_eq_false, Bool.and_true, Bool.not_true, Bool.and_self, toV_kc] at h; done) | rw [h])
    | (refine guardK_split (fun h => ?_) (fun h => ?_) <;> first | exact (bool_contra h (by assumption)).elim | exact (bool_contra (by assumption) h).elim | exact (bool_contra h (by decide)).elim | exact (bool_contra (by decide) h).elim | (simp only [reduceCtorEq, beq_self_eq_true, bne_self_eq_false, Bool.and_true, Bool.not_true, Bool.and_self, toV_kc] at h; done) | rw [h])
    | refine fnQ_ret_soft rfl rfl ?_
    | refine fnQ_normal_soft rfl rfl ?_
  all_goals simp_all
end

end Go.Vm
