/- Walks. -/
import Derived.Test.YtjegabeechopdaaCflatD
import Derived.Test.YtjegabeechopdaaWflatC
set_option maxRecDepth 100000
set_option linter.unusedSimpArgs false
set_option linter.unusedVariables false
namespace Go.Vm
open Go

section
variable {gl : Nat → Option PV}
set_option maxHeartbeats 4000000

theorem l_FlatHeight (k c k' c' : Int) : Pure Go.Proofs.Try.prog gl 4 [.agg [.int .i64 k, .int .i64 c], .agg [.int .i64 k', .int .i64 c']] (.bool true) := by
  refine Pure.of hmix b4 (wp_fn ?_)
  repeat' first
    | refine wp_seq' ?_
    | refine wp_region_f ?_
    | refine wp_region_t (by kernel_rfl) ?_
    | (refine ops_nil ?_; try simp only [Hp.n_none, Hp.n_app, Hp.n_add, Hp.n_set, Hp.n_addH, PV.cells_agg, PV.cells_int, PV.cells_bool, Env.put_none, Hp.app_one, List.length_cons, List.length_nil, Nat.reduceAdd, List.take_succ_cons, List.take_zero, List.set_cons_zero, List.drop_zero, Nat.add_zero, Nat.zero_add])
    | refine seqQ_normal ?_
    | refine seqQ_exit ?_
    | refine seqQ_ret ?_
    | refine blkQ_normal ?_
    | refine blkQ_exit ?_
    | refine blkQ_ret ?_
    | refine blkQ_exit_ne rfl ?_
    | refine wp_block' ?_
    | refine wp_skip' ?_
    | refine wp_exit' ?_
    | refine wp_ret' ?_
    | refine ops_val rfl rfl ?_
    | refine ops_plain rfl rfl ?_
    | refine ops_store_ptr rfl rfl rfl rfl rfl ?_
    | refine ops_eqs_f rfl rfl rfl ?_
    | refine ops_eqs_t rfl rfl rfl ?_
    | refine ops_guard rfl ?_
    | refine wp_cond_e rfl ?_
    | with_reducible refine guardK_tt ?_
    | with_reducible refine guardK_ff ?_
    | with_reducible refine guardK_tf ?_
    | with_reducible refine guardK_ft ?_
    | with_reducible refine condK_t ?_
    | with_reducible refine condK_f ?_
    | refine ops_call (f := 20) rfl rfl (p_law02_awake) ?_
    | refine ops_call (f := 21) rfl rfl (p_law02_ours ..) ?_
    | refine ops_call (f := 22) rfl rfl (p_flat_Join ..) ?_
    | refine ops_call (f := 23) rfl rfl (p_flat_Leq ..) ?_
    | refine ops_call (f := 25) rfl rfl (p_flat_Height ..) ?_
    | (refine condK_split (fun h => ?_) (fun h => ?_) <;> first | exact (bool_contra h (by assumption)).elim | exact (bool_contra (by assumption) h).elim | exact (bool_contra h (by decide)).elim | exact (bool_contra (by decide) h).elim | (simp only [reduceCtorEq, beq_self_eq_true, bne_self_eq_false, Bool.and_true, Bool.not_true, Bool.and_self, toV_kc] at h; done) | rw [h])
    | (refine guardK_split (fun h => ?_) (fun h => ?_) <;> first | exact (bool_contra h (by assumption)).elim | exact (bool_contra (by assumption) h).elim | exact (bool_contra h (by decide)).elim | exact (bool_contra (by decide) h).elim | (simp only [reduceCtorEq, beq_self_eq_true, bne_self_eq_false, Bool.and_true, Bool.not_true, Bool.and_self, toV_kc] at h; done) | rw [h])
    | refine fnQ_ret_soft rfl rfl ?_
    | refine fnQ_normal_soft rfl rfl ?_
  all_goals (simp only [toV_kc, toV_00, toV_20] at *; generalize toV k c = A at *; generalize toV k' c' = B at *; rcases A with _ | x | _ <;> rcases B with _ | y | _ <;> simp_all [V3.leq, V3.join, V3.k, V3.c, BitVec.toInt_inj])

theorem l_FlatStrict (k c k' c' : Int) : Pure Go.Proofs.Try.prog gl 6 [.agg [.int .i64 k, .int .i64 c], .agg [.int .i64 k', .int .i64 c']] (.bool true) := by
  refine Pure.of hmix b6 (wp_fn ?_)
  repeat' first
    | refine wp_seq' ?_
    | refine wp_region_f ?_
    | refine wp_region_t (by kernel_rfl) ?_
    | (refine ops_nil ?_; try simp only [Hp.n_none, Hp.n_app, Hp.n_add, Hp.n_set, Hp.n_addH, PV.cells_agg, PV.cells_int, PV.cells_bool, Env.put_none, Hp.app_one, List.length_cons, List.length_nil, Nat.reduceAdd, List.take_succ_cons, List.take_zero, List.set_cons_zero, List.drop_zero, Nat.add_zero, Nat.zero_add])
    | refine seqQ_normal ?_
    | refine seqQ_exit ?_
    | refine seqQ_ret ?_
    | refine blkQ_normal ?_
    | refine blkQ_exit ?_
    | refine blkQ_ret ?_
    | refine blkQ_exit_ne rfl ?_
    | refine wp_block' ?_
    | refine wp_skip' ?_
    | refine wp_exit' ?_
    | refine wp_ret' ?_
    | refine ops_val rfl rfl ?_
    | refine ops_plain rfl rfl ?_
    | refine ops_store_ptr rfl rfl rfl rfl rfl ?_
    | refine ops_eqs_f rfl rfl rfl ?_
    | refine ops_eqs_t rfl rfl rfl ?_
    | refine ops_guard rfl ?_
    | refine wp_cond_e rfl ?_
    | with_reducible refine guardK_tt ?_
    | with_reducible refine guardK_ff ?_
    | with_reducible refine guardK_tf ?_
    | with_reducible refine guardK_ft ?_
    | with_reducible refine condK_t ?_
    | with_reducible refine condK_f ?_
    | refine ops_call (f := 20) rfl rfl (p_law02_awake) ?_
    | refine ops_call (f := 21) rfl rfl (p_law02_ours ..) ?_
    | refine ops_call (f := 27) rfl rfl (p_flat_Add ..) ?_
    | refine ops_call (f := 28) rfl rfl (p_flat_Sub ..) ?_
    | refine ops_call (f := 30) rfl rfl (p_flat_Mul ..) ?_
    | refine ops_call (f := 29) rfl rfl (p_flat_Neg ..) ?_
    | refine ops_call (f := 24) rfl rfl (p_flat_Sane ..) ?_
    | refine ops_call (f := 25) rfl rfl (p_flat_Height ..) ?_
    | (refine condK_split (fun h => ?_) (fun h => ?_) <;> first | exact (bool_contra h (by assumption)).elim | exact (bool_contra (by assumption) h).elim | exact (bool_contra h (by decide)).elim | exact (bool_contra (by decide) h).elim | (simp only [reduceCtorEq, beq_self_eq_true, bne_self_eq_false, Bool.and_true, Bool.not_true, Bool.and_self, toV_kc] at h; done) | rw [h])
    | (refine guardK_split (fun h => ?_) (fun h => ?_) <;> first | exact (bool_contra h (by assumption)).elim | exact (bool_contra (by assumption) h).elim | exact (bool_contra h (by decide)).elim | exact (bool_contra (by decide) h).elim | (simp only [reduceCtorEq, beq_self_eq_true, bne_self_eq_false, Bool.and_true, Bool.not_true, Bool.and_self, toV_kc] at h; done) | rw [h])
    | refine fnQ_ret_soft rfl rfl ?_
    | refine fnQ_normal_soft rfl rfl ?_
  all_goals (try simp only [toV_kc, vSane_kc] at *)
  all_goals (generalize toV k c = A at *; generalize toV k' c' = B at *; rcases A with _ | x | _ <;> rcases B with _ | y | _ <;> simp_all [V3.add, V3.sub, V3.mul, V3.neg, V3.each, V3.k, V3.c])

theorem l_FlatRises (k c k' c' k2 c2 k3 c3 : Int) : Pure Go.Proofs.Try.prog gl 8 [.agg [.int .i64 k, .int .i64 c], .agg [.int .i64 k', .int .i64 c'], .agg [.int .i64 k2, .int .i64 c2], .agg [.int .i64 k3, .int .i64 c3]] (.bool true) := by
  refine Pure.of hmix b8 (wp_fn ?_)
  repeat' first
    | refine wp_seq' ?_
    | refine wp_region_f ?_
    | refine wp_region_t (by kernel_rfl) ?_
    | (refine ops_nil ?_; try simp only [Hp.n_none, Hp.n_app, Hp.n_add, Hp.n_set, Hp.n_addH, PV.cells_agg, PV.cells_int, PV.cells_bool, Env.put_none, Hp.app_one, List.length_cons, List.length_nil, Nat.reduceAdd, List.take_succ_cons, List.take_zero, List.set_cons_zero, List.drop_zero, Nat.add_zero, Nat.zero_add])
    | refine seqQ_normal ?_
    | refine seqQ_exit ?_
    | refine seqQ_ret ?_
    | refine blkQ_normal ?_
    | refine blkQ_exit ?_
    | refine blkQ_ret ?_
    | refine blkQ_exit_ne rfl ?_
    | refine wp_block' ?_
    | refine wp_skip' ?_
    | refine wp_exit' ?_
    | refine wp_ret' ?_
    | refine ops_val rfl rfl ?_
    | refine ops_plain rfl rfl ?_
    | refine ops_store_ptr rfl rfl rfl rfl rfl ?_
    | refine ops_eqs_f rfl rfl rfl ?_
    | refine ops_eqs_t rfl rfl rfl ?_
    | refine ops_guard rfl ?_
    | refine wp_cond_e rfl ?_
    | with_reducible refine guardK_tt ?_
    | with_reducible refine guardK_ff ?_
    | with_reducible refine guardK_tf ?_
    | with_reducible refine guardK_ft ?_
    | with_reducible refine condK_t ?_
    | with_reducible refine condK_f ?_
    | refine ops_call (f := 20) rfl rfl (p_law02_awake) ?_
    | refine ops_call (f := 21) rfl rfl (p_law02_ours ..) ?_
    | refine ops_call (f := 22) rfl rfl (p_flat_Join ..) ?_
    | refine ops_call (f := 23) rfl rfl (p_flat_Leq ..) ?_
    | refine ops_call (f := 27) rfl rfl (p_flat_Add ..) ?_
    | refine ops_call (f := 28) rfl rfl (p_flat_Sub ..) ?_
    | refine ops_call (f := 30) rfl rfl (p_flat_Mul ..) ?_
    | refine ops_call (f := 29) rfl rfl (p_flat_Neg ..) ?_
    | (refine condK_split (fun h => ?_) (fun h => ?_) <;> first | exact (bool_contra h (by assumption)).elim | exact (bool_contra (by assumption) h).elim | exact (bool_contra h (by decide)).elim | exact (bool_contra (by decide) h).elim | (simp only [reduceCtorEq, toV_kc, V3.neg_rises, V3.add_rises, V3.sub_rises, V3.mul_rises] at h; done) | rw [h])
    | (refine guardK_split (fun h => ?_) (fun h => ?_) <;> first | exact (bool_contra h (by assumption)).elim | exact (bool_contra (by assumption) h).elim | exact (bool_contra h (by decide)).elim | exact (bool_contra (by decide) h).elim | (simp only [reduceCtorEq, toV_kc, V3.neg_rises, V3.add_rises, V3.sub_rises, V3.mul_rises] at h; done) | rw [h])
    | refine fnQ_ret_soft rfl rfl ?_
    | refine fnQ_normal_soft rfl rfl ?_
  all_goals simp only [toV_kc, V3.neg_rises, V3.add_rises, V3.sub_rises, V3.mul_rises] at *
end

end Go.Vm
