/- Walks. -/
import Derived.Test.YtjegabeechopdaaCflatB
import Derived.Test.YtjegabeechopdaaLFlat
set_option maxRecDepth 100000
set_option linter.unusedSimpArgs false
set_option linter.unusedVariables false
namespace Go.Vm
open Go

theorem hmix : Go.Proofs.Try.prog.follows .mixedOrders = true := by kernel_rfl

section
variable {gl : Nat → Option PV}

theorem p_flat_Sane (k c : Int) : Pure Go.Proofs.Try.prog gl 24 [.agg [.int .i64 k, .int .i64 c]] (.bool (vSane k c)) := by
  refine Pure.of hmix b24 (wp_fn ?_)
  repeat' first
    | refine wp_seq' ?_
    | refine wp_region_f ?_
    | refine wp_region_t (by kernel_rfl) ?_
    | (refine ops_nil ?_; try simp only [Hp.n_none, Hp.n_app, Hp.n_add, Hp.n_set, Hp.n_addH, PV.cells_agg, PV.cells_int, PV.cells_bool, Env.put_none, Hp.app_one, List.length_cons, List.length_nil, Nat.reduceAdd, List.take_succ_cons, List.take_zero, List.set_cons_zero, List.drop_zero, Nat.add_zero, Nat.zero_add])
    | refine seqQ_normal ?_
    | refine seqQ_exit ?_
    | refine seqQ_ret ?_
    | refine blkQ_normal ?_
    | refine blkQ_exit ?_
    | refine blkQ_ret ?_
    | refine blkQ_exit_ne rfl ?_
    | refine wp_block' ?_
    | refine wp_skip' ?_
    | refine wp_exit' ?_
    | refine wp_ret' ?_
    | refine ops_val rfl rfl ?_
    | refine ops_plain rfl rfl ?_
    | refine ops_store_ptr rfl rfl rfl rfl rfl ?_
    | refine ops_eqs_f rfl rfl rfl ?_
    | refine ops_eqs_t rfl rfl rfl ?_
    | refine ops_guard rfl ?_
    | refine wp_cond_e rfl ?_
    | with_reducible refine guardK_tt ?_
    | with_reducible refine guardK_ff ?_
    | with_reducible refine guardK_tf ?_
    | with_reducible refine guardK_ft ?_
    | with_reducible refine condK_t ?_
    | with_reducible refine condK_f ?_
    | (refine condK_split (fun h => ?_) (fun h => ?_) <;> first | exact (bool_contra h (by assumption)).elim | exact (bool_contra (by assumption) h).elim | exact (bool_contra h (by decide)).elim | exact (bool_contra (by decide) h).elim | rw [h])
    | (refine guardK_split (fun h => ?_) (fun h => ?_) <;> first | exact (bool_contra h (by assumption)).elim | exact (bool_contra (by assumption) h).elim | exact (bool_contra h (by decide)).elim | exact (bool_contra (by decide) h).elim | rw [h])
    | refine fnQ_ret_soft rfl rfl ?_
    | refine fnQ_normal_soft rfl rfl ?_
  all_goals (simp_all [vSane]; try omega)

theorem p_flat_sane (k c : Int) : Pure Go.Proofs.Try.prog gl 89 [.agg [.int .i64 k, .int .i64 c]] (pv (toV k c)) := by
  refine Pure.of hmix b89 (wp_fn ?_)
  repeat' first
    | refine wp_seq' ?_
    | refine wp_region_f ?_
    | refine wp_region_t (by kernel_rfl) ?_
    | (refine ops_nil ?_; try simp only [Hp.n_none, Hp.n_app, Hp.n_add, Hp.n_set, Hp.n_addH, PV.cells_agg, PV.cells_int, PV.cells_bool, Env.put_none, Hp.app_one, List.length_cons, List.length_nil, Nat.reduceAdd, List.take_succ_cons, List.take_zero, List.set_cons_zero, List.drop_zero, Nat.add_zero, Nat.zero_add])
    | refine seqQ_normal ?_
    | refine seqQ_exit ?_
    | refine seqQ_ret ?_
    | refine blkQ_normal ?_
    | refine blkQ_exit ?_
    | refine blkQ_ret ?_
    | refine blkQ_exit_ne rfl ?_
    | refine wp_block' ?_
    | refine wp_skip' ?_
    | refine wp_exit' ?_
    | refine wp_ret' ?_
    | refine ops_val rfl rfl ?_
    | refine ops_plain rfl rfl ?_
    | refine ops_store_ptr rfl rfl rfl rfl rfl ?_
    | refine ops_eqs_f rfl rfl rfl ?_
    | refine ops_eqs_t rfl rfl rfl ?_
    | refine ops_guard rfl ?_
    | refine wp_cond_e rfl ?_
    | with_reducible refine guardK_tt ?_
    | with_reducible refine guardK_ff ?_
    | with_reducible refine guardK_tf ?_
    | with_reducible refine guardK_ft ?_
    | with_reducible refine condK_t ?_
    | with_reducible refine condK_f ?_
    | refine ops_call (f := 24) rfl rfl (p_flat_Sane ..) ?_
    | (refine condK_split (fun h => ?_) (fun h => ?_) <;> first | exact (bool_contra h (by assumption)).elim | exact (bool_contra (by assumption) h).elim | exact (bool_contra h (by decide)).elim | exact (bool_contra (by decide) h).elim | rw [h])
    | (refine guardK_split (fun h => ?_) (fun h => ?_) <;> first | exact (bool_contra h (by assumption)).elim | exact (bool_contra (by assumption) h).elim | exact (bool_contra h (by decide)).elim | exact (bool_contra (by decide) h).elim | rw [h])
    | refine fnQ_ret_soft rfl rfl ?_
    | refine fnQ_normal_soft rfl rfl ?_
  · simp_all [toV_unsane, V3.k, V3.c]
  · simp_all [toV_sane]

theorem p_flat_Wrap (n : Int) : Pure Go.Proofs.Try.prog gl 35 [.int .i64 n] (.int .i64 (BitVec.ofInt 32 n).toInt) := by
  refine Pure.of hmix b35 (wp_fn ?_)
  repeat' first
    | refine wp_seq' ?_
    | refine wp_region_f ?_
    | refine wp_region_t (by kernel_rfl) ?_
    | (refine ops_nil ?_; try simp only [Hp.n_none, Hp.n_app, Hp.n_add, Hp.n_set, Hp.n_addH, PV.cells_agg, PV.cells_int, PV.cells_bool, Env.put_none, Hp.app_one, List.length_cons, List.length_nil, Nat.reduceAdd, List.take_succ_cons, List.take_zero, List.set_cons_zero, List.drop_zero, Nat.add_zero, Nat.zero_add])
    | refine seqQ_normal ?_
    | refine seqQ_exit ?_
    | refine seqQ_ret ?_
    | refine blkQ_normal ?_
    | refine blkQ_exit ?_
    | refine blkQ_ret ?_
    | refine blkQ_exit_ne rfl ?_
    | refine wp_block' ?_
    | refine wp_skip' ?_
    | refine wp_exit' ?_
    | refine wp_ret' ?_
    | refine ops_val rfl rfl ?_
    | refine ops_plain rfl rfl ?_
    | refine ops_store_ptr rfl rfl rfl rfl rfl ?_
    | refine ops_eqs_f rfl rfl rfl ?_
    | refine ops_eqs_t rfl rfl rfl ?_
    | refine ops_guard rfl ?_
    | refine wp_cond_e rfl ?_
    | with_reducible refine guardK_tt ?_
    | with_reducible refine guardK_ff ?_
    | with_reducible refine guardK_tf ?_
    | with_reducible refine guardK_ft ?_
    | with_reducible refine condK_t ?_
    | with_reducible refine condK_f ?_
    | (refine condK_split (fun h => ?_) (fun h => ?_) <;> first | exact (bool_contra h (by assumption)).elim | exact (bool_contra (by assumption) h).elim | exact (bool_contra h (by decide)).elim | exact (bool_contra (by decide) h).elim | rw [h])
    | (refine guardK_split (fun h => ?_) (fun h => ?_) <;> first | exact (bool_contra h (by assumption)).elim | exact (bool_contra (by assumption) h).elim | exact (bool_contra h (by decide)).elim | exact (bool_contra (by decide) h).elim | rw [h])
    | refine fnQ_ret_soft rfl rfl ?_
    | refine fnQ_normal_soft rfl rfl ?_
  rw [toInt_ofInt32, IntKind.wrap_i64, IntKind.wrap_i32]
  congr 1
  omega

theorem p_flat_Of (n : Int) : Pure Go.Proofs.Try.prog gl 26 [.int .i64 n] (pv (.one (BitVec.ofInt 32 n))) := by
  refine Pure.of hmix b26 (wp_fn ?_)
  repeat' first
    | refine wp_seq' ?_
    | refine wp_region_f ?_
    | refine wp_region_t (by kernel_rfl) ?_
    | (refine ops_nil ?_; try simp only [Hp.n_none, Hp.n_app, Hp.n_add, Hp.n_set, Hp.n_addH, PV.cells_agg, PV.cells_int, PV.cells_bool, Env.put_none, Hp.app_one, List.length_cons, List.length_nil, Nat.reduceAdd, List.take_succ_cons, List.take_zero, List.set_cons_zero, List.drop_zero, Nat.add_zero, Nat.zero_add])
    | refine seqQ_normal ?_
    | refine seqQ_exit ?_
    | refine seqQ_ret ?_
    | refine blkQ_normal ?_
    | refine blkQ_exit ?_
    | refine blkQ_ret ?_
    | refine blkQ_exit_ne rfl ?_
    | refine wp_block' ?_
    | refine wp_skip' ?_
    | refine wp_exit' ?_
    | refine wp_ret' ?_
    | refine ops_val rfl rfl ?_
    | refine ops_plain rfl rfl ?_
    | refine ops_store_ptr rfl rfl rfl rfl rfl ?_
    | refine ops_eqs_f rfl rfl rfl ?_
    | refine ops_eqs_t rfl rfl rfl ?_
    | refine ops_guard rfl ?_
    | refine wp_cond_e rfl ?_
    | with_reducible refine guardK_tt ?_
    | with_reducible refine guardK_ff ?_
    | with_reducible refine guardK_tf ?_
    | with_reducible refine guardK_ft ?_
    | with_reducible refine condK_t ?_
    | with_reducible refine condK_f ?_
    | refine ops_call (f := 35) rfl rfl (p_flat_Wrap ..) ?_
    | (refine condK_split (fun h => ?_) (fun h => ?_) <;> first | exact (bool_contra h (by assumption)).elim | exact (bool_contra (by assumption) h).elim | exact (bool_contra h (by decide)).elim | exact (bool_contra (by decide) h).elim | rw [h])
    | (refine guardK_split (fun h => ?_) (fun h => ?_) <;> first | exact (bool_contra h (by assumption)).elim | exact (bool_contra (by assumption) h).elim | exact (bool_contra h (by decide)).elim | exact (bool_contra (by decide) h).elim | rw [h])
    | refine fnQ_ret_soft rfl rfl ?_
    | refine fnQ_normal_soft rfl rfl ?_
  rfl

theorem p_flat_Join (k c k' c' : Int) : Pure Go.Proofs.Try.prog gl 22 [.agg [.int .i64 k, .int .i64 c], .agg [.int .i64 k', .int .i64 c']] (pv ((toV k c).join (toV k' c'))) := by
  refine Pure.of hmix b22 (wp_fn ?_)
  repeat' first
    | refine wp_seq' ?_
    | refine wp_region_f ?_
    | refine wp_region_t (by kernel_rfl) ?_
    | (refine ops_nil ?_; try simp only [Hp.n_none, Hp.n_app, Hp.n_add, Hp.n_set, Hp.n_addH, PV.cells_agg, PV.cells_int, PV.cells_bool, Env.put_none, Hp.app_one, List.length_cons, List.length_nil, Nat.reduceAdd, List.take_succ_cons, List.take_zero, List.set_cons_zero, List.drop_zero, Nat.add_zero, Nat.zero_add])
    | refine seqQ_normal ?_
    | refine seqQ_exit ?_
    | refine seqQ_ret ?_
    | refine blkQ_normal ?_
    | refine blkQ_exit ?_
    | refine blkQ_ret ?_
    | refine blkQ_exit_ne rfl ?_
    | refine wp_block' ?_
    | refine wp_skip' ?_
    | refine wp_exit' ?_
    | refine wp_ret' ?_
    | refine ops_val rfl rfl ?_
    | refine ops_plain rfl rfl ?_
    | refine ops_store_ptr rfl rfl rfl rfl rfl ?_
    | refine ops_eqs_f rfl rfl rfl ?_
    | refine ops_eqs_t rfl rfl rfl ?_
    | refine ops_guard rfl ?_
    | refine wp_cond_e rfl ?_
    | with_reducible refine guardK_tt ?_
    | with_reducible refine guardK_ff ?_
    | with_reducible refine guardK_tf ?_
    | with_reducible refine guardK_ft ?_
    | with_reducible refine condK_t ?_
    | with_reducible refine condK_f ?_
    | refine ops_call (f := 89) rfl rfl (p_flat_sane ..) ?_
    | (refine condK_split (fun h => ?_) (fun h => ?_) <;> first | exact (bool_contra h (by assumption)).elim | exact (bool_contra (by assumption) h).elim | exact (bool_contra h (by decide)).elim | exact (bool_contra (by decide) h).elim | rw [h])
    | (refine guardK_split (fun h => ?_) (fun h => ?_) <;> first | exact (bool_contra h (by assumption)).elim | exact (bool_contra (by assumption) h).elim | exact (bool_contra h (by decide)).elim | exact (bool_contra (by decide) h).elim | rw [h])
    | refine fnQ_ret_soft rfl rfl ?_
    | refine fnQ_normal_soft rfl rfl ?_
  all_goals (generalize toV k c = A at *; generalize toV k' c' = B at *; cases A <;> cases B <;> simp_all [V3.join, V3.k, V3.c, BitVec.toInt_inj])

theorem p_flat_Leq (k c k' c' : Int) : Pure Go.Proofs.Try.prog gl 23 [.agg [.int .i64 k, .int .i64 c], .agg [.int .i64 k', .int .i64 c']] (.bool ((toV k c).leq (toV k' c'))) := by
  refine Pure.of hmix b23 (wp_fn ?_)
  repeat' first
    | refine wp_seq' ?_
    | refine wp_region_f ?_
    | refine wp_region_t (by kernel_rfl) ?_
    | (refine ops_nil ?_; try simp only [Hp.n_none, Hp.n_app, Hp.n_add, Hp.n_set, Hp.n_addH, PV.cells_agg, PV.cells_int, PV.cells_bool, Env.put_none, Hp.app_one, List.length_cons, List.length_nil, Nat.reduceAdd, List.take_succ_cons, List.take_zero, List.set_cons_zero, List.drop_zero, Nat.add_zero, Nat.zero_add])
    | refine seqQ_normal ?_
    | refine seqQ_exit ?_
    | refine seqQ_ret ?_
    | refine blkQ_normal ?_
    | refine blkQ_exit ?_
    | refine blkQ_ret ?_
    | refine blkQ_exit_ne rfl ?_
    | refine wp_block' ?_
    | refine wp_skip' ?_
    | refine wp_exit' ?_
    | refine wp_ret' ?_
    | refine ops_val rfl rfl ?_
    | refine ops_plain rfl rfl ?_
    | refine ops_store_ptr rfl rfl rfl rfl rfl ?_
    | refine ops_eqs_f rfl rfl rfl ?_
    | refine ops_eqs_t rfl rfl rfl ?_
    | refine ops_guard rfl ?_
    | refine wp_cond_e rfl ?_
    | with_reducible refine guardK_tt ?_
    | with_reducible refine guardK_ff ?_
    | with_reducible refine guardK_tf ?_
    | with_reducible refine guardK_ft ?_
    | with_reducible refine condK_t ?_
    | with_reducible refine condK_f ?_
    | refine ops_call (f := 89) rfl rfl (p_flat_sane ..) ?_
    | refine ops_call (f := 22) rfl rfl (p_flat_Join ..) ?_
    | (refine condK_split (fun h => ?_) (fun h => ?_) <;> first | exact (bool_contra h (by assumption)).elim | exact (bool_contra (by assumption) h).elim | exact (bool_contra h (by decide)).elim | exact (bool_contra (by decide) h).elim | rw [h])
    | (refine guardK_split (fun h => ?_) (fun h => ?_) <;> first | exact (bool_contra h (by assumption)).elim | exact (bool_contra (by assumption) h).elim | exact (bool_contra h (by decide)).elim | exact (bool_contra (by decide) h).elim | rw [h])
    | refine fnQ_ret_soft rfl rfl ?_
    | refine fnQ_normal_soft rfl rfl ?_
  rw [V3.beq]
  rfl

theorem p_flat_Height (k c : Int) : Pure Go.Proofs.Try.prog gl 25 [.agg [.int .i64 k, .int .i64 c]] (.int .i64 (toV k c).k) := by
  refine Pure.of hmix b25 (wp_fn ?_)
  repeat' first
    | refine wp_seq' ?_
    | refine wp_region_f ?_
    | refine wp_region_t (by kernel_rfl) ?_
    | (refine ops_nil ?_; try simp only [Hp.n_none, Hp.n_app, Hp.n_add, Hp.n_set, Hp.n_addH, PV.cells_agg, PV.cells_int, PV.cells_bool, Env.put_none, Hp.app_one, List.length_cons, List.length_nil, Nat.reduceAdd, List.take_succ_cons, List.take_zero, List.set_cons_zero, List.drop_zero, Nat.add_zero, Nat.zero_add])
    | refine seqQ_normal ?_
    | refine seqQ_exit ?_
    | refine seqQ_ret ?_
    | refine blkQ_normal ?_
    | refine blkQ_exit ?_
    | refine blkQ_ret ?_
    | refine blkQ_exit_ne rfl ?_
    | refine wp_block' ?_
    | refine wp_skip' ?_
    | refine wp_exit' ?_
    | refine wp_ret' ?_
    | refine ops_val rfl rfl ?_
    | refine ops_plain rfl rfl ?_
    | refine ops_store_ptr rfl rfl rfl rfl rfl ?_
    | refine ops_eqs_f rfl rfl rfl ?_
    | refine ops_eqs_t rfl rfl rfl ?_
    | refine ops_guard rfl ?_
    | refine wp_cond_e rfl ?_
    | with_reducible refine guardK_tt ?_
    | with_reducible refine guardK_ff ?_
    | with_reducible refine guardK_tf ?_
    | with_reducible refine guardK_ft ?_
    | with_reducible refine condK_t ?_
    | with_reducible refine condK_f ?_
    | refine ops_call (f := 89) rfl rfl (p_flat_sane ..) ?_
    | (refine condK_split (fun h => ?_) (fun h => ?_) <;> first | exact (bool_contra h (by assumption)).elim | exact (bool_contra (by assumption) h).elim | exact (bool_contra h (by decide)).elim | exact (bool_contra (by decide) h).elim | rw [h])
    | (refine guardK_split (fun h => ?_) (fun h => ?_) <;> first | exact (bool_contra h (by assumption)).elim | exact (bool_contra (by assumption) h).elim | exact (bool_contra h (by decide)).elim | exact (bool_contra (by decide) h).elim | rw [h])
    | refine fnQ_ret_soft rfl rfl ?_
    | refine fnQ_normal_soft rfl rfl ?_
  rfl

theorem p_flat_each (f : FuncId) (g : Int → Int → Int) (o : BitVec 32 → BitVec 32 → BitVec 32) (hf : ∀ x y, Pure Go.Proofs.Try.prog gl f [.int .i64 x, .int .i64 y] (.int .i64 (g x y))) (ho : ∀ x y : BitVec 32, BitVec.ofInt 32 (g x.toInt y.toInt) = o x y) (k c k' c' : Int) :
    Pure Go.Proofs.Try.prog gl 90 [.agg [.int .i64 k, .int .i64 c], .agg [.int .i64 k', .int .i64 c'], .fn f []] (pv (V3.each o (toV k c) (toV k' c'))) := by
  refine Pure.of hmix b90 (wp_fn ?_)
  repeat' first
    | refine wp_seq' ?_
    | refine wp_region_f ?_
    | refine wp_region_t (by kernel_rfl) ?_
    | (refine ops_nil ?_; try simp only [Hp.n_none, Hp.n_app, Hp.n_add, Hp.n_set, Hp.n_addH, PV.cells_agg, PV.cells_int, PV.cells_bool, Env.put_none, Hp.app_one, List.length_cons, List.length_nil, Nat.reduceAdd, List.take_succ_cons, List.take_zero, List.set_cons_zero, List.drop_zero, Nat.add_zero, Nat.zero_add])
    | refine seqQ_normal ?_
    | refine seqQ_exit ?_
    | refine seqQ_ret ?_
    | refine blkQ_normal ?_
    | refine blkQ_exit ?_
    | refine blkQ_ret ?_
    | refine blkQ_exit_ne rfl ?_
    | refine wp_block' ?_
    | refine wp_skip' ?_
    | refine wp_exit' ?_
    | refine wp_ret' ?_
    | refine ops_val rfl rfl ?_
    | refine ops_plain rfl rfl ?_
    | refine ops_store_ptr rfl rfl rfl rfl rfl ?_
    | refine ops_eqs_f rfl rfl rfl ?_
    | refine ops_eqs_t rfl rfl rfl ?_
    | refine ops_guard rfl ?_
    | refine wp_cond_e rfl ?_
    | with_reducible refine guardK_tt ?_
    | with_reducible refine guardK_ff ?_
    | with_reducible refine guardK_tf ?_
    | with_reducible refine guardK_ft ?_
    | with_reducible refine condK_t ?_
    | with_reducible refine condK_f ?_
    | refine ops_call (f := 89) rfl rfl (p_flat_sane ..) ?_
    | refine ops_call (f := 26) rfl rfl (p_flat_Of ..) ?_
    | refine ops_callv rfl rfl rfl (hf ..) ?_
    | (refine condK_split (fun h => ?_) (fun h => ?_) <;> first | exact (bool_contra h (by assumption)).elim | exact (bool_contra (by assumption) h).elim | exact (bool_contra h (by decide)).elim | exact (bool_contra (by decide) h).elim | rw [h])
    | (refine guardK_split (fun h => ?_) (fun h => ?_) <;> first | exact (bool_contra h (by assumption)).elim | exact (bool_contra (by assumption) h).elim | exact (bool_contra h (by decide)).elim | exact (bool_contra (by decide) h).elim | rw [h])
    | refine fnQ_ret_soft rfl rfl ?_
    | refine fnQ_normal_soft rfl rfl ?_
  all_goals (generalize toV k c = A at *; generalize toV k' c' = B at *; cases A <;> cases B <;> simp_all [V3.each, V3.k, V3.c])

theorem p_flat_add1 (x y : Int) : Pure Go.Proofs.Try.prog gl 91 [.int .i64 x, .int .i64 y] (.int .i64 (IntKind.i64.wrap (x + y))) := by
  refine Pure.of hmix b91 (wp_fn ?_)
  repeat' first
    | refine wp_seq' ?_
    | refine wp_region_f ?_
    | refine wp_region_t (by kernel_rfl) ?_
    | (refine ops_nil ?_; try simp only [Hp.n_none, Hp.n_app, Hp.n_add, Hp.n_set, Hp.n_addH, PV.cells_agg, PV.cells_int, PV.cells_bool, Env.put_none, Hp.app_one, List.length_cons, List.length_nil, Nat.reduceAdd, List.take_succ_cons, List.take_zero, List.set_cons_zero, List.drop_zero, Nat.add_zero, Nat.zero_add])
    | refine seqQ_normal ?_
    | refine seqQ_exit ?_
    | refine seqQ_ret ?_
    | refine blkQ_normal ?_
    | refine blkQ_exit ?_
    | refine blkQ_ret ?_
    | refine blkQ_exit_ne rfl ?_
    | refine wp_block' ?_
    | refine wp_skip' ?_
    | refine wp_exit' ?_
    | refine wp_ret' ?_
    | refine ops_val rfl rfl ?_
    | refine ops_plain rfl rfl ?_
    | refine ops_store_ptr rfl rfl rfl rfl rfl ?_
    | refine ops_eqs_f rfl rfl rfl ?_
    | refine ops_eqs_t rfl rfl rfl ?_
    | refine ops_guard rfl ?_
    | refine wp_cond_e rfl ?_
    | with_reducible refine guardK_tt ?_
    | with_reducible refine guardK_ff ?_
    | with_reducible refine guardK_tf ?_
    | with_reducible refine guardK_ft ?_
    | with_reducible refine condK_t ?_
    | with_reducible refine condK_f ?_
    | (refine condK_split (fun h => ?_) (fun h => ?_) <;> first | exact (bool_contra h (by assumption)).elim | exact (bool_contra (by assumption) h).elim | exact (bool_contra h (by decide)).elim | exact (bool_contra (by decide) h).elim | rw [h])
    | (refine guardK_split (fun h => ?_) (fun h => ?_) <;> first | exact (bool_contra h (by assumption)).elim | exact (bool_contra (by assumption) h).elim | exact (bool_contra h (by decide)).elim | exact (bool_contra (by decide) h).elim | rw [h])
    | refine fnQ_ret_soft rfl rfl ?_
    | refine fnQ_normal_soft rfl rfl ?_
  rfl
theorem p_flat_sub1 (x y : Int) : Pure Go.Proofs.Try.prog gl 92 [.int .i64 x, .int .i64 y] (.int .i64 (IntKind.i64.wrap (x - y))) := by
  refine Pure.of hmix b92 (wp_fn ?_)
  repeat' first
    | refine wp_seq' ?_
    | refine wp_region_f ?_
    | refine wp_region_t (by kernel_rfl) ?_
    | (refine ops_nil ?_; try simp only [Hp.n_none, Hp.n_app, Hp.n_add, Hp.n_set, Hp.n_addH, PV.cells_agg, PV.cells_int, PV.cells_bool, Env.put_none, Hp.app_one, List.length_cons, List.length_nil, Nat.reduceAdd, List.take_succ_cons, List.take_zero, List.set_cons_zero, List.drop_zero, Nat.add_zero, Nat.zero_add])
    | refine seqQ_normal ?_
    | refine seqQ_exit ?_
    | refine seqQ_ret ?_
    | refine blkQ_normal ?_
    | refine blkQ_exit ?_
    | refine blkQ_ret ?_
    | refine blkQ_exit_ne rfl ?_
    | refine wp_block' ?_
    | refine wp_skip' ?_
    | refine wp_exit' ?_
    | refine wp_ret' ?_
    | refine ops_val rfl rfl ?_
    | refine ops_plain rfl rfl ?_
    | refine ops_store_ptr rfl rfl rfl rfl rfl ?_
    | refine ops_eqs_f rfl rfl rfl ?_
    | refine ops_eqs_t rfl rfl rfl ?_
    | refine ops_guard rfl ?_
    | refine wp_cond_e rfl ?_
    | with_reducible refine guardK_tt ?_
    | with_reducible refine guardK_ff ?_
    | with_reducible refine guardK_tf ?_
    | with_reducible refine guardK_ft ?_
    | with_reducible refine condK_t ?_
    | with_reducible refine condK_f ?_
    | (refine condK_split (fun h => ?_) (fun h => ?_) <;> first | exact (bool_contra h (by assumption)).elim | exact (bool_contra (by assumption) h).elim | exact (bool_contra h (by decide)).elim | exact (bool_contra (by decide) h).elim | rw [h])
    | (refine guardK_split (fun h => ?_) (fun h => ?_) <;> first | exact (bool_contra h (by assumption)).elim | exact (bool_contra (by assumption) h).elim | exact (bool_contra h (by decide)).elim | exact (bool_contra (by decide) h).elim | rw [h])
    | refine fnQ_ret_soft rfl rfl ?_
    | refine fnQ_normal_soft rfl rfl ?_
  rfl
theorem p_flat_mul1 (x y : Int) : Pure Go.Proofs.Try.prog gl 93 [.int .i64 x, .int .i64 y] (.int .i64 (IntKind.i64.wrap (x * y))) := by
  refine Pure.of hmix b93 (wp_fn ?_)
  repeat' first
    | refine wp_seq' ?_
    | refine wp_region_f ?_
    | refine wp_region_t (by kernel_rfl) ?_
    | (refine ops_nil ?_; try simp only [Hp.n_none, Hp.n_app, Hp.n_add, Hp.n_set, Hp.n_addH, PV.cells_agg, PV.cells_int, PV.cells_bool, Env.put_none, Hp.app_one, List.length_cons, List.length_nil, Nat.reduceAdd, List.take_succ_cons, List.take_zero, List.set_cons_zero, List.drop_zero, Nat.add_zero, Nat.zero_add])
    | refine seqQ_normal ?_
    | refine seqQ_exit ?_
    | refine seqQ_ret ?_
    | refine blkQ_normal ?_
    | refine blkQ_exit ?_
    | refine blkQ_ret ?_
    | refine blkQ_exit_ne rfl ?_
    | refine wp_block' ?_
    | refine wp_skip' ?_
    | refine wp_exit' ?_
    | refine wp_ret' ?_
    | refine ops_val rfl rfl ?_
    | refine ops_plain rfl rfl ?_
    | refine ops_store_ptr rfl rfl rfl rfl rfl ?_
    | refine ops_eqs_f rfl rfl rfl ?_
    | refine ops_eqs_t rfl rfl rfl ?_
    | refine ops_guard rfl ?_
    | refine wp_cond_e rfl ?_
    | with_reducible refine guardK_tt ?_
    | with_reducible refine guardK_ff ?_
    | with_reducible refine guardK_tf ?_
    | with_reducible refine guardK_ft ?_
    | with_reducible refine condK_t ?_
    | with_reducible refine condK_f ?_
    | (refine condK_split (fun h => ?_) (fun h => ?_) <;> first | exact (bool_contra h (by assumption)).elim | exact (bool_contra (by assumption) h).elim | exact (bool_contra h (by decide)).elim | exact (bool_contra (by decide) h).elim | rw [h])
    | (refine guardK_split (fun h => ?_) (fun h => ?_) <;> first | exact (bool_contra h (by assumption)).elim | exact (bool_contra (by assumption) h).elim | exact (bool_contra h (by decide)).elim | exact (bool_contra (by decide) h).elim | rw [h])
    | refine fnQ_ret_soft rfl rfl ?_
    | refine fnQ_normal_soft rfl rfl ?_
  rfl

theorem p_flat_Add (k c k' c' : Int) : Pure Go.Proofs.Try.prog gl 27 [.agg [.int .i64 k, .int .i64 c], .agg [.int .i64 k', .int .i64 c']] (pv ((toV k c).add (toV k' c'))) := by
  refine Pure.of hmix b27 (wp_fn ?_)
  repeat' first
    | refine wp_seq' ?_
    | refine wp_region_f ?_
    | refine wp_region_t (by kernel_rfl) ?_
    | (refine ops_nil ?_; try simp only [Hp.n_none, Hp.n_app, Hp.n_add, Hp.n_set, Hp.n_addH, PV.cells_agg, PV.cells_int, PV.cells_bool, Env.put_none, Hp.app_one, List.length_cons, List.length_nil, Nat.reduceAdd, List.take_succ_cons, List.take_zero, List.set_cons_zero, List.drop_zero, Nat.add_zero, Nat.zero_add])
    | refine seqQ_normal ?_
    | refine seqQ_exit ?_
    | refine seqQ_ret ?_
    | refine blkQ_normal ?_
    | refine blkQ_exit ?_
    | refine blkQ_ret ?_
    | refine blkQ_exit_ne rfl ?_
    | refine wp_block' ?_
    | refine wp_skip' ?_
    | refine wp_exit' ?_
    | refine wp_ret' ?_
    | refine ops_val rfl rfl ?_
    | refine ops_plain rfl rfl ?_
    | refine ops_store_ptr rfl rfl rfl rfl rfl ?_
    | refine ops_eqs_f rfl rfl rfl ?_
    | refine ops_eqs_t rfl rfl rfl ?_
    | refine ops_guard rfl ?_
    | refine wp_cond_e rfl ?_
    | with_reducible refine guardK_tt ?_
    | with_reducible refine guardK_ff ?_
    | with_reducible refine guardK_tf ?_
    | with_reducible refine guardK_ft ?_
    | with_reducible refine condK_t ?_
    | with_reducible refine condK_f ?_
    | refine ops_call (f := 90) rfl rfl (p_flat_each _ _ (· + ·) p_flat_add1 o_add _ _ _ _) ?_
    | (refine condK_split (fun h => ?_) (fun h => ?_) <;> first | exact (bool_contra h (by assumption)).elim | exact (bool_contra (by assumption) h).elim | exact (bool_contra h (by decide)).elim | exact (bool_contra (by decide) h).elim | rw [h])
    | (refine guardK_split (fun h => ?_) (fun h => ?_) <;> first | exact (bool_contra h (by assumption)).elim | exact (bool_contra (by assumption) h).elim | exact (bool_contra h (by decide)).elim | exact (bool_contra (by decide) h).elim | rw [h])
    | refine fnQ_ret_soft rfl rfl ?_
    | refine fnQ_normal_soft rfl rfl ?_
  rfl
theorem p_flat_Sub (k c k' c' : Int) : Pure Go.Proofs.Try.prog gl 28 [.agg [.int .i64 k, .int .i64 c], .agg [.int .i64 k', .int .i64 c']] (pv ((toV k c).sub (toV k' c'))) := by
  refine Pure.of hmix b28 (wp_fn ?_)
  repeat' first
    | refine wp_seq' ?_
    | refine wp_region_f ?_
    | refine wp_region_t (by kernel_rfl) ?_
    | (refine ops_nil ?_; try simp only [Hp.n_none, Hp.n_app, Hp.n_add, Hp.n_set, Hp.n_addH, PV.cells_agg, PV.cells_int, PV.cells_bool, Env.put_none, Hp.app_one, List.length_cons, List.length_nil, Nat.reduceAdd, List.take_succ_cons, List.take_zero, List.set_cons_zero, List.drop_zero, Nat.add_zero, Nat.zero_add])
    | refine seqQ_normal ?_
    | refine seqQ_exit ?_
    | refine seqQ_ret ?_
    | refine blkQ_normal ?_
    | refine blkQ_exit ?_
    | refine blkQ_ret ?_
    | refine blkQ_exit_ne rfl ?_
    | refine wp_block' ?_
    | refine wp_skip' ?_
    | refine wp_exit' ?_
    | refine wp_ret' ?_
    | refine ops_val rfl rfl ?_
    | refine ops_plain rfl rfl ?_
    | refine ops_store_ptr rfl rfl rfl rfl rfl ?_
    | refine ops_eqs_f rfl rfl rfl ?_
    | refine ops_eqs_t rfl rfl rfl ?_
    | refine ops_guard rfl ?_
    | refine wp_cond_e rfl ?_
    | with_reducible refine guardK_tt ?_
    | with_reducible refine guardK_ff ?_
    | with_reducible refine guardK_tf ?_
    | with_reducible refine guardK_ft ?_
    | with_reducible refine condK_t ?_
    | with_reducible refine condK_f ?_
    | refine ops_call (f := 90) rfl rfl (p_flat_each _ _ (· - ·) p_flat_sub1 o_sub _ _ _ _) ?_
    | (refine condK_split (fun h => ?_) (fun h => ?_) <;> first | exact (bool_contra h (by assumption)).elim | exact (bool_contra (by assumption) h).elim | exact (bool_contra h (by decide)).elim | exact (bool_contra (by decide) h).elim | rw [h])
    | (refine guardK_split (fun h => ?_) (fun h => ?_) <;> first | exact (bool_contra h (by assumption)).elim | exact (bool_contra (by assumption) h).elim | exact (bool_contra h (by decide)).elim | exact (bool_contra (by decide) h).elim | rw [h])
    | refine fnQ_ret_soft rfl rfl ?_
    | refine fnQ_normal_soft rfl rfl ?_
  rfl
theorem p_flat_Mul (k c k' c' : Int) : Pure Go.Proofs.Try.prog gl 30 [.agg [.int .i64 k, .int .i64 c], .agg [.int .i64 k', .int .i64 c']] (pv ((toV k c).mul (toV k' c'))) := by
  refine Pure.of hmix b30 (wp_fn ?_)
  repeat' first
    | refine wp_seq' ?_
    | refine wp_region_f ?_
    | refine wp_region_t (by kernel_rfl) ?_
    | (refine ops_nil ?_; try simp only [Hp.n_none, Hp.n_app, Hp.n_add, Hp.n_set, Hp.n_addH, PV.cells_agg, PV.cells_int, PV.cells_bool, Env.put_none, Hp.app_one, List.length_cons, List.length_nil, Nat.reduceAdd, List.take_succ_cons, List.take_zero, List.set_cons_zero, List.drop_zero, Nat.add_zero, Nat.zero_add])
    | refine seqQ_normal ?_
    | refine seqQ_exit ?_
    | refine seqQ_ret ?_
    | refine blkQ_normal ?_
    | refine blkQ_exit ?_
    | refine blkQ_ret ?_
    | refine blkQ_exit_ne rfl ?_
    | refine wp_block' ?_
    | refine wp_skip' ?_
    | refine wp_exit' ?_
    | refine wp_ret' ?_
    | refine ops_val rfl rfl ?_
    | refine ops_plain rfl rfl ?_
    | refine ops_store_ptr rfl rfl rfl rfl rfl ?_
    | refine ops_eqs_f rfl rfl rfl ?_
    | refine ops_eqs_t rfl rfl rfl ?_
    | refine ops_guard rfl ?_
    | refine wp_cond_e rfl ?_
    | with_reducible refine guardK_tt ?_
    | with_reducible refine guardK_ff ?_
    | with_reducible refine guardK_tf ?_
    | with_reducible refine guardK_ft ?_
    | with_reducible refine condK_t ?_
    | with_reducible refine condK_f ?_
    | refine ops_call (f := 90) rfl rfl (p_flat_each _ _ (· * ·) p_flat_mul1 o_mul _ _ _ _) ?_
    | (refine condK_split (fun h => ?_) (fun h => ?_) <;> first | exact (bool_contra h (by assumption)).elim | exact (bool_contra (by assumption) h).elim | exact (bool_contra h (by decide)).elim | exact (bool_contra (by decide) h).elim | rw [h])
    | (refine guardK_split (fun h => ?_) (fun h => ?_) <;> first | exact (bool_contra h (by assumption)).elim | exact (bool_contra (by assumption) h).elim | exact (bool_contra h (by decide)).elim | exact (bool_contra (by decide) h).elim | rw [h])
    | refine fnQ_ret_soft rfl rfl ?_
    | refine fnQ_normal_soft rfl rfl ?_
  rfl
theorem p_flat_Neg (k c : Int) : Pure Go.Proofs.Try.prog gl 29 [.agg [.int .i64 k, .int .i64 c]] (pv (toV k c).neg) := by
  refine Pure.of hmix b29 (wp_fn ?_)
  repeat' first
    | refine wp_seq' ?_
    | refine wp_region_f ?_
    | refine wp_region_t (by kernel_rfl) ?_
    | (refine ops_nil ?_; try simp only [Hp.n_none, Hp.n_app, Hp.n_add, Hp.n_set, Hp.n_addH, PV.cells_agg, PV.cells_int, PV.cells_bool, Env.put_none, Hp.app_one, List.length_cons, List.length_nil, Nat.reduceAdd, List.take_succ_cons, List.take_zero, List.set_cons_zero, List.drop_zero, Nat.add_zero, Nat.zero_add])
    | refine seqQ_normal ?_
    | refine seqQ_exit ?_
    | refine seqQ_ret ?_
    | refine blkQ_normal ?_
    | refine blkQ_exit ?_
    | refine blkQ_ret ?_
    | refine blkQ_exit_ne rfl ?_
    | refine wp_block' ?_
    | refine wp_skip' ?_
    | refine wp_exit' ?_
    | refine wp_ret' ?_
    | refine ops_val rfl rfl ?_
    | refine ops_plain rfl rfl ?_
    | refine ops_store_ptr rfl rfl rfl rfl rfl ?_
    | refine ops_eqs_f rfl rfl rfl ?_
    | refine ops_eqs_t rfl rfl rfl ?_
    | refine ops_guard rfl ?_
    | refine wp_cond_e rfl ?_
    | with_reducible refine guardK_tt ?_
    | with_reducible refine guardK_ff ?_
    | with_reducible refine guardK_tf ?_
    | with_reducible refine guardK_ft ?_
    | with_reducible refine condK_t ?_
    | with_reducible refine condK_f ?_
    | refine ops_call (f := 26) rfl rfl (p_flat_Of ..) ?_
    | refine ops_call (f := 28) rfl rfl (p_flat_Sub ..) ?_
    | (refine condK_split (fun h => ?_) (fun h => ?_) <;> first | exact (bool_contra h (by assumption)).elim | exact (bool_contra (by assumption) h).elim | exact (bool_contra h (by decide)).elim | exact (bool_contra (by decide) h).elim | rw [h])
    | (refine guardK_split (fun h => ?_) (fun h => ?_) <;> first | exact (bool_contra h (by assumption)).elim | exact (bool_contra (by assumption) h).elim | exact (bool_contra h (by decide)).elim | exact (bool_contra (by decide) h).elim | rw [h])
    | refine fnQ_ret_soft rfl rfl ?_
    | refine fnQ_normal_soft rfl rfl ?_
  simp [toV_kc, V3.neg]
end
section
variable {gl : Nat → Option PV}

theorem p_rflat_Sane (k c : Int) : Pure Go.Proofs.Try.prog gl 31 [.agg [.int .i64 k, .int .i64 c]] (.bool (vSane k c)) := by
  refine Pure.of hmix b31 (wp_fn ?_)
  repeat' first
    | refine wp_seq' ?_
    | refine wp_region_f ?_
    | refine wp_region_t (by kernel_rfl) ?_
    | (refine ops_nil ?_; try simp only [Hp.n_none, Hp.n_app, Hp.n_add, Hp.n_set, Hp.n_addH, PV.cells_agg, PV.cells_int, PV.cells_bool, Env.put_none, Hp.app_one, List.length_cons, List.length_nil, Nat.reduceAdd, List.take_succ_cons, List.take_zero, List.set_cons_zero, List.drop_zero, Nat.add_zero, Nat.zero_add])
    | refine seqQ_normal ?_
    | refine seqQ_exit ?_
    | refine seqQ_ret ?_
    | refine blkQ_normal ?_
    | refine blkQ_exit ?_
    | refine blkQ_ret ?_
    | refine blkQ_exit_ne rfl ?_
    | refine wp_block' ?_
    | refine wp_skip' ?_
    | refine wp_exit' ?_
    | refine wp_ret' ?_
    | refine ops_val rfl rfl ?_
    | refine ops_plain rfl rfl ?_
    | refine ops_store_ptr rfl rfl rfl rfl rfl ?_
    | refine ops_eqs_f rfl rfl rfl ?_
    | refine ops_eqs_t rfl rfl rfl ?_
    | refine ops_guard rfl ?_
    | refine wp_cond_e rfl ?_
    | with_reducible refine guardK_tt ?_
    | with_reducible refine guardK_ff ?_
    | with_reducible refine guardK_tf ?_
    | with_reducible refine guardK_ft ?_
    | with_reducible refine condK_t ?_
    | with_reducible refine condK_f ?_
    | (refine condK_split (fun h => ?_) (fun h => ?_) <;> first | exact (bool_contra h (by assumption)).elim | exact (bool_contra (by assumption) h).elim | exact (bool_contra h (by decide)).elim | exact (bool_contra (by decide) h).elim | rw [h])
    | (refine guardK_split (fun h => ?_) (fun h => ?_) <;> first | exact (bool_contra h (by assumption)).elim | exact (bool_contra (by assumption) h).elim | exact (bool_contra h (by decide)).elim | exact (bool_contra (by decide) h).elim | rw [h])
    | refine fnQ_ret_soft rfl rfl ?_
    | refine fnQ_normal_soft rfl rfl ?_
  all_goals (simp_all [vSane]; try omega)

theorem p_rflat_sane (k c : Int) : Pure Go.Proofs.Try.prog gl 94 [.agg [.int .i64 k, .int .i64 c]] (pv (toV k c)) := by
  refine Pure.of hmix b94 (wp_fn ?_)
  repeat' first
    | refine wp_seq' ?_
    | refine wp_region_f ?_
    | refine wp_region_t (by kernel_rfl) ?_
    | (refine ops_nil ?_; try simp only [Hp.n_none, Hp.n_app, Hp.n_add, Hp.n_set, Hp.n_addH, PV.cells_agg, PV.cells_int, PV.cells_bool, Env.put_none, Hp.app_one, List.length_cons, List.length_nil, Nat.reduceAdd, List.take_succ_cons, List.take_zero, List.set_cons_zero, List.drop_zero, Nat.add_zero, Nat.zero_add])
    | refine seqQ_normal ?_
    | refine seqQ_exit ?_
    | refine seqQ_ret ?_
    | refine blkQ_normal ?_
    | refine blkQ_exit ?_
    | refine blkQ_ret ?_
    | refine blkQ_exit_ne rfl ?_
    | refine wp_block' ?_
    | refine wp_skip' ?_
    | refine wp_exit' ?_
    | refine wp_ret' ?_
    | refine ops_val rfl rfl ?_
    | refine ops_plain rfl rfl ?_
    | refine ops_store_ptr rfl rfl rfl rfl rfl ?_
    | refine ops_eqs_f rfl rfl rfl ?_
    | refine ops_eqs_t rfl rfl rfl ?_
    | refine ops_guard rfl ?_
    | refine wp_cond_e rfl ?_
    | with_reducible refine guardK_tt ?_
    | with_reducible refine guardK_ff ?_
    | with_reducible refine guardK_tf ?_
    | with_reducible refine guardK_ft ?_
    | with_reducible refine condK_t ?_
    | with_reducible refine condK_f ?_
    | refine ops_call (f := 31) rfl rfl (p_rflat_Sane ..) ?_
    | (refine condK_split (fun h => ?_) (fun h => ?_) <;> first | exact (bool_contra h (by assumption)).elim | exact (bool_contra (by assumption) h).elim | exact (bool_contra h (by decide)).elim | exact (bool_contra (by decide) h).elim | rw [h])
    | (refine guardK_split (fun h => ?_) (fun h => ?_) <;> first | exact (bool_contra h (by assumption)).elim | exact (bool_contra (by assumption) h).elim | exact (bool_contra h (by decide)).elim | exact (bool_contra (by decide) h).elim | rw [h])
    | refine fnQ_ret_soft rfl rfl ?_
    | refine fnQ_normal_soft rfl rfl ?_
  · simp_all [toV_unsane, V3.k, V3.c]
  · simp_all [toV_sane]

theorem p_rflat_Wrap (n : Int) : Pure Go.Proofs.Try.prog gl 36 [.int .i64 n] (.int .i64 (BitVec.ofInt 32 n).toInt) := by
  refine Pure.of hmix b36 (wp_fn ?_)
  repeat' first
    | refine wp_seq' ?_
    | refine wp_region_f ?_
    | refine wp_region_t (by kernel_rfl) ?_
    | (refine ops_nil ?_; try simp only [Hp.n_none, Hp.n_app, Hp.n_add, Hp.n_set, Hp.n_addH, PV.cells_agg, PV.cells_int, PV.cells_bool, Env.put_none, Hp.app_one, List.length_cons, List.length_nil, Nat.reduceAdd, List.take_succ_cons, List.take_zero, List.set_cons_zero, List.drop_zero, Nat.add_zero, Nat.zero_add])
    | refine seqQ_normal ?_
    | refine seqQ_exit ?_
    | refine seqQ_ret ?_
    | refine blkQ_normal ?_
    | refine blkQ_exit ?_
    | refine blkQ_ret ?_
    | refine blkQ_exit_ne rfl ?_
    | refine wp_block' ?_
    | refine wp_skip' ?_
    | refine wp_exit' ?_
    | refine wp_ret' ?_
    | refine ops_val rfl rfl ?_
    | refine ops_plain rfl rfl ?_
    | refine ops_store_ptr rfl rfl rfl rfl rfl ?_
    | refine ops_eqs_f rfl rfl rfl ?_
    | refine ops_eqs_t rfl rfl rfl ?_
    | refine ops_guard rfl ?_
    | refine wp_cond_e rfl ?_
    | with_reducible refine guardK_tt ?_
    | with_reducible refine guardK_ff ?_
    | with_reducible refine guardK_tf ?_
    | with_reducible refine guardK_ft ?_
    | with_reducible refine condK_t ?_
    | with_reducible refine condK_f ?_
    | (refine condK_split (fun h => ?_) (fun h => ?_) <;> first | exact (bool_contra h (by assumption)).elim | exact (bool_contra (by assumption) h).elim | exact (bool_contra h (by decide)).elim | exact (bool_contra (by decide) h).elim | rw [h])
    | (refine guardK_split (fun h => ?_) (fun h => ?_) <;> first | exact (bool_contra h (by assumption)).elim | exact (bool_contra (by assumption) h).elim | exact (bool_contra h (by decide)).elim | exact (bool_contra (by decide) h).elim | rw [h])
    | refine fnQ_ret_soft rfl rfl ?_
    | refine fnQ_normal_soft rfl rfl ?_
  all_goals (rw [toInt_ofInt32]; congr 1; have ht := tmod_cases n; simp [IntKind.wrap_i64] at *; omega)

theorem p_rflat_Of (n : Int) : Pure Go.Proofs.Try.prog gl 37 [.int .i64 n] (pv (.one (BitVec.ofInt 32 n))) := by
  refine Pure.of hmix b37 (wp_fn ?_)
  repeat' first
    | refine wp_seq' ?_
    | refine wp_region_f ?_
    | refine wp_region_t (by kernel_rfl) ?_
    | (refine ops_nil ?_; try simp only [Hp.n_none, Hp.n_app, Hp.n_add, Hp.n_set, Hp.n_addH, PV.cells_agg, PV.cells_int, PV.cells_bool, Env.put_none, Hp.app_one, List.length_cons, List.length_nil, Nat.reduceAdd, List.take_succ_cons, List.take_zero, List.set_cons_zero, List.drop_zero, Nat.add_zero, Nat.zero_add])
    | refine seqQ_normal ?_
    | refine seqQ_exit ?_
    | refine seqQ_ret ?_
    | refine blkQ_normal ?_
    | refine blkQ_exit ?_
    | refine blkQ_ret ?_
    | refine blkQ_exit_ne rfl ?_
    | refine wp_block' ?_
    | refine wp_skip' ?_
    | refine wp_exit' ?_
    | refine wp_ret' ?_
    | refine ops_val rfl rfl ?_
    | refine ops_plain rfl rfl ?_
    | refine ops_store_ptr rfl rfl rfl rfl rfl ?_
    | refine ops_eqs_f rfl rfl rfl ?_
    | refine ops_eqs_t rfl rfl rfl ?_
    | refine ops_guard rfl ?_
    | refine wp_cond_e rfl ?_
    | with_reducible refine guardK_tt ?_
    | with_reducible refine guardK_ff ?_
    | with_reducible refine guardK_tf ?_
    | with_reducible refine guardK_ft ?_
    | with_reducible refine condK_t ?_
    | with_reducible refine condK_f ?_
    | refine ops_call (f := 36) rfl rfl (p_rflat_Wrap ..) ?_
    | (refine condK_split (fun h => ?_) (fun h => ?_) <;> first | exact (bool_contra h (by assumption)).elim | exact (bool_contra (by assumption) h).elim | exact (bool_contra h (by decide)).elim | exact (bool_contra (by decide) h).elim | rw [h])
    | (refine guardK_split (fun h => ?_) (fun h => ?_) <;> first | exact (bool_contra h (by assumption)).elim | exact (bool_contra (by assumption) h).elim | exact (bool_contra h (by decide)).elim | exact (bool_contra (by decide) h).elim | rw [h])
    | refine fnQ_ret_soft rfl rfl ?_
    | refine fnQ_normal_soft rfl rfl ?_
  rfl

theorem p_rflat_Leq (k c k' c' : Int) : Pure Go.Proofs.Try.prog gl 34 [.agg [.int .i64 k, .int .i64 c], .agg [.int .i64 k', .int .i64 c']] (.bool ((toV k c).leq (toV k' c'))) := by
  refine Pure.of hmix b34 (wp_fn ?_)
  repeat' first
    | refine wp_seq' ?_
    | refine wp_region_f ?_
    | refine wp_region_t (by kernel_rfl) ?_
    | (refine ops_nil ?_; try simp only [Hp.n_none, Hp.n_app, Hp.n_add, Hp.n_set, Hp.n_addH, PV.cells_agg, PV.cells_int, PV.cells_bool, Env.put_none, Hp.app_one, List.length_cons, List.length_nil, Nat.reduceAdd, List.take_succ_cons, List.take_zero, List.set_cons_zero, List.drop_zero, Nat.add_zero, Nat.zero_add])
    | refine seqQ_normal ?_
    | refine seqQ_exit ?_
    | refine seqQ_ret ?_
    | refine blkQ_normal ?_
    | refine blkQ_exit ?_
    | refine blkQ_ret ?_
    | refine blkQ_exit_ne rfl ?_
    | refine wp_block' ?_
    | refine wp_skip' ?_
    | refine wp_exit' ?_
    | refine wp_ret' ?_
    | refine ops_val rfl rfl ?_
    | refine ops_plain rfl rfl ?_
    | refine ops_store_ptr rfl rfl rfl rfl rfl ?_
    | refine ops_eqs_f rfl rfl rfl ?_
    | refine ops_eqs_t rfl rfl rfl ?_
    | refine ops_guard rfl ?_
    | refine wp_cond_e rfl ?_
    | with_reducible refine guardK_tt ?_
    | with_reducible refine guardK_ff ?_
    | with_reducible refine guardK_tf ?_
    | with_reducible refine guardK_ft ?_
    | with_reducible refine condK_t ?_
    | with_reducible refine condK_f ?_
    | refine ops_call (f := 94) rfl rfl (p_rflat_sane ..) ?_
    | (refine condK_split (fun h => ?_) (fun h => ?_) <;> first | exact (bool_contra h (by assumption)).elim | exact (bool_contra (by assumption) h).elim | exact (bool_contra h (by decide)).elim | exact (bool_contra (by decide) h).elim | rw [h])
    | (refine guardK_split (fun h => ?_) (fun h => ?_) <;> first | exact (bool_contra h (by assumption)).elim | exact (bool_contra (by assumption) h).elim | exact (bool_contra h (by decide)).elim | exact (bool_contra (by decide) h).elim | rw [h])
    | refine fnQ_ret_soft rfl rfl ?_
    | refine fnQ_normal_soft rfl rfl ?_
  all_goals (generalize toV k c = A at *; generalize toV k' c' = B at *; cases A <;> cases B <;> simp_all [V3.leq, V3.join, V3.k, V3.c, BitVec.toInt_inj])
  all_goals exact toInt_beq _ _

theorem p_rflat_Join (k c k' c' : Int) : Pure Go.Proofs.Try.prog gl 33 [.agg [.int .i64 k, .int .i64 c], .agg [.int .i64 k', .int .i64 c']] (pv ((toV k c).join (toV k' c'))) := by
  refine Pure.of hmix b33 (wp_fn ?_)
  repeat' first
    | refine wp_seq' ?_
    | refine wp_region_f ?_
    | refine wp_region_t (by kernel_rfl) ?_
    | (refine ops_nil ?_; try simp only [Hp.n_none, Hp.n_app, Hp.n_add, Hp.n_set, Hp.n_addH, PV.cells_agg, PV.cells_int, PV.cells_bool, Env.put_none, Hp.app_one, List.length_cons, List.length_nil, Nat.reduceAdd, List.take_succ_cons, List.take_zero, List.set_cons_zero, List.drop_zero, Nat.add_zero, Nat.zero_add])
    | refine seqQ_normal ?_
    | refine seqQ_exit ?_
    | refine seqQ_ret ?_
    | refine blkQ_normal ?_
    | refine blkQ_exit ?_
    | refine blkQ_ret ?_
    | refine blkQ_exit_ne rfl ?_
    | refine wp_block' ?_
    | refine wp_skip' ?_
    | refine wp_exit' ?_
    | refine wp_ret' ?_
    | refine ops_val rfl rfl ?_
    | refine ops_plain rfl rfl ?_
    | refine ops_store_ptr rfl rfl rfl rfl rfl ?_
    | refine ops_eqs_f rfl rfl rfl ?_
    | refine ops_eqs_t rfl rfl rfl ?_
    | refine ops_guard rfl ?_
    | refine wp_cond_e rfl ?_
    | with_reducible refine guardK_tt ?_
    | with_reducible refine guardK_ff ?_
    | with_reducible refine guardK_tf ?_
    | with_reducible refine guardK_ft ?_
    | with_reducible refine condK_t ?_
    | with_reducible refine condK_f ?_
    | refine ops_call (f := 94) rfl rfl (p_rflat_sane ..) ?_
    | refine ops_call (f := 34) rfl rfl (p_rflat_Leq ..) ?_
    | (refine condK_split (fun h => ?_) (fun h => ?_) <;> first | exact (bool_contra h (by assumption)).elim | exact (bool_contra (by assumption) h).elim | exact (bool_contra h (by decide)).elim | exact (bool_contra (by decide) h).elim | rw [h])
    | (refine guardK_split (fun h => ?_) (fun h => ?_) <;> first | exact (bool_contra h (by assumption)).elim | exact (bool_contra (by assumption) h).elim | exact (bool_contra h (by decide)).elim | exact (bool_contra (by decide) h).elim | rw [h])
    | refine fnQ_ret_soft rfl rfl ?_
    | refine fnQ_normal_soft rfl rfl ?_
  all_goals (generalize toV k c = A at *; generalize toV k' c' = B at *; cases A <;> cases B <;> simp_all [V3.join, V3.leq, V3.k, V3.c, BitVec.toInt_inj])

theorem p_rflat_kind (a b : V3) : Pure Go.Proofs.Try.prog gl 96 [pv a, pv b] (.int .i64 (if a.k == 0 || b.k == 0 then 0 else if b.k > a.k then b.k else a.k)) := by
  refine Pure.of hmix b96 (wp_fn ?_)
  repeat' first
    | refine wp_seq' ?_
    | refine wp_region_f ?_
    | refine wp_region_t (by kernel_rfl) ?_
    | (refine ops_nil ?_; try simp only [Hp.n_none, Hp.n_app, Hp.n_add, Hp.n_set, Hp.n_addH, PV.cells_agg, PV.cells_int, PV.cells_bool, Env.put_none, Hp.app_one, List.length_cons, List.length_nil, Nat.reduceAdd, List.take_succ_cons, List.take_zero, List.set_cons_zero, List.drop_zero, Nat.add_zero, Nat.zero_add])
    | refine seqQ_normal ?_
    | refine seqQ_exit ?_
    | refine seqQ_ret ?_
    | refine blkQ_normal ?_
    | refine blkQ_exit ?_
    | refine blkQ_ret ?_
    | refine blkQ_exit_ne rfl ?_
    | refine wp_block' ?_
    | refine wp_skip' ?_
    | refine wp_exit' ?_
    | refine wp_ret' ?_
    | refine ops_val rfl rfl ?_
    | refine ops_plain rfl rfl ?_
    | refine ops_store_ptr rfl rfl rfl rfl rfl ?_
    | refine ops_eqs_f rfl rfl rfl ?_
    | refine ops_eqs_t rfl rfl rfl ?_
    | refine ops_guard rfl ?_
    | refine wp_cond_e rfl ?_
    | with_reducible refine guardK_tt ?_
    | with_reducible refine guardK_ff ?_
    | with_reducible refine guardK_tf ?_
    | with_reducible refine guardK_ft ?_
    | with_reducible refine condK_t ?_
    | with_reducible refine condK_f ?_
    | (refine condK_split (fun h => ?_) (fun h => ?_) <;> first | exact (bool_contra h (by assumption)).elim | exact (bool_contra (by assumption) h).elim | exact (bool_contra h (by decide)).elim | exact (bool_contra (by decide) h).elim | rw [h])
    | (refine guardK_split (fun h => ?_) (fun h => ?_) <;> first | exact (bool_contra h (by assumption)).elim | exact (bool_contra (by assumption) h).elim | exact (bool_contra h (by decide)).elim | exact (bool_contra (by decide) h).elim | rw [h])
    | refine fnQ_ret_soft rfl rfl ?_
    | refine fnQ_normal_soft rfl rfl ?_
  all_goals simp_all

theorem p_rflat_made (k n : Int) : Pure Go.Proofs.Try.prog gl 95 [.int .i64 k, .int .i64 n] (.agg [.int .i64 k, .int .i64 (if k == 1 then (BitVec.ofInt 32 n).toInt else 0)]) := by
  refine Pure.of hmix b95 (wp_fn ?_)
  repeat' first
    | refine wp_seq' ?_
    | refine wp_region_f ?_
    | refine wp_region_t (by kernel_rfl) ?_
    | (refine ops_nil ?_; try simp only [Hp.n_none, Hp.n_app, Hp.n_add, Hp.n_set, Hp.n_addH, PV.cells_agg, PV.cells_int, PV.cells_bool, Env.put_none, Hp.app_one, List.length_cons, List.length_nil, Nat.reduceAdd, List.take_succ_cons, List.take_zero, List.set_cons_zero, List.drop_zero, Nat.add_zero, Nat.zero_add])
    | refine seqQ_normal ?_
    | refine seqQ_exit ?_
    | refine seqQ_ret ?_
    | refine blkQ_normal ?_
    | refine blkQ_exit ?_
    | refine blkQ_ret ?_
    | refine blkQ_exit_ne rfl ?_
    | refine wp_block' ?_
    | refine wp_skip' ?_
    | refine wp_exit' ?_
    | refine wp_ret' ?_
    | refine ops_val rfl rfl ?_
    | refine ops_plain rfl rfl ?_
    | refine ops_store_ptr rfl rfl rfl rfl rfl ?_
    | refine ops_eqs_f rfl rfl rfl ?_
    | refine ops_eqs_t rfl rfl rfl ?_
    | refine ops_guard rfl ?_
    | refine wp_cond_e rfl ?_
    | with_reducible refine guardK_tt ?_
    | with_reducible refine guardK_ff ?_
    | with_reducible refine guardK_tf ?_
    | with_reducible refine guardK_ft ?_
    | with_reducible refine condK_t ?_
    | with_reducible refine condK_f ?_
    | refine ops_call (f := 37) rfl rfl (p_rflat_Of ..) ?_
    | (refine condK_split (fun h => ?_) (fun h => ?_) <;> first | exact (bool_contra h (by assumption)).elim | exact (bool_contra (by assumption) h).elim | exact (bool_contra h (by decide)).elim | exact (bool_contra (by decide) h).elim | rw [h])
    | (refine guardK_split (fun h => ?_) (fun h => ?_) <;> first | exact (bool_contra h (by assumption)).elim | exact (bool_contra (by assumption) h).elim | exact (bool_contra h (by decide)).elim | exact (bool_contra (by decide) h).elim | rw [h])
    | refine fnQ_ret_soft rfl rfl ?_
    | refine fnQ_normal_soft rfl rfl ?_
  all_goals simp_all [V3.k, V3.c]

theorem p_rflat_Add (k c k' c' : Int) : Pure Go.Proofs.Try.prog gl 40 [.agg [.int .i64 k, .int .i64 c], .agg [.int .i64 k', .int .i64 c']] (pv ((toV k c).add (toV k' c'))) := by
  refine Pure.of hmix b40 (wp_fn ?_)
  repeat' first
    | refine wp_seq' ?_
    | refine wp_region_f ?_
    | refine wp_region_t (by kernel_rfl) ?_
    | (refine ops_nil ?_; try simp only [Hp.n_none, Hp.n_app, Hp.n_add, Hp.n_set, Hp.n_addH, PV.cells_agg, PV.cells_int, PV.cells_bool, Env.put_none, Hp.app_one, List.length_cons, List.length_nil, Nat.reduceAdd, List.take_succ_cons, List.take_zero, List.set_cons_zero, List.drop_zero, Nat.add_zero, Nat.zero_add])
    | refine seqQ_normal ?_
    | refine seqQ_exit ?_
    | refine seqQ_ret ?_
    | refine blkQ_normal ?_
    | refine blkQ_exit ?_
    | refine blkQ_ret ?_
    | refine blkQ_exit_ne rfl ?_
    | refine wp_block' ?_
    | refine wp_skip' ?_
    | refine wp_exit' ?_
    | refine wp_ret' ?_
    | refine ops_val rfl rfl ?_
    | refine ops_plain rfl rfl ?_
    | refine ops_store_ptr rfl rfl rfl rfl rfl ?_
    | refine ops_eqs_f rfl rfl rfl ?_
    | refine ops_eqs_t rfl rfl rfl ?_
    | refine ops_guard rfl ?_
    | refine wp_cond_e rfl ?_
    | with_reducible refine guardK_tt ?_
    | with_reducible refine guardK_ff ?_
    | with_reducible refine guardK_tf ?_
    | with_reducible refine guardK_ft ?_
    | with_reducible refine condK_t ?_
    | with_reducible refine condK_f ?_
    | refine ops_call (f := 94) rfl rfl (p_rflat_sane ..) ?_
    | refine ops_call (f := 96) rfl rfl (p_rflat_kind ..) ?_
    | refine ops_call (f := 95) rfl rfl (p_rflat_made ..) ?_
    | (refine condK_split (fun h => ?_) (fun h => ?_) <;> first | exact (bool_contra h (by assumption)).elim | exact (bool_contra (by assumption) h).elim | exact (bool_contra h (by decide)).elim | exact (bool_contra (by decide) h).elim | rw [h])
    | (refine guardK_split (fun h => ?_) (fun h => ?_) <;> first | exact (bool_contra h (by assumption)).elim | exact (bool_contra (by assumption) h).elim | exact (bool_contra h (by decide)).elim | exact (bool_contra (by decide) h).elim | rw [h])
    | refine fnQ_ret_soft rfl rfl ?_
    | refine fnQ_normal_soft rfl rfl ?_
  all_goals (generalize toV k c = A at *; generalize toV k' c' = B at *; cases A <;> cases B <;> simp_all [V3.add, V3.each, V3.k, V3.c, o_add])
theorem p_rflat_Sub (k c k' c' : Int) : Pure Go.Proofs.Try.prog gl 41 [.agg [.int .i64 k, .int .i64 c], .agg [.int .i64 k', .int .i64 c']] (pv ((toV k c).sub (toV k' c'))) := by
  refine Pure.of hmix b41 (wp_fn ?_)
  repeat' first
    | refine wp_seq' ?_
    | refine wp_region_f ?_
    | refine wp_region_t (by kernel_rfl) ?_
    | (refine ops_nil ?_; try simp only [Hp.n_none, Hp.n_app, Hp.n_add, Hp.n_set, Hp.n_addH, PV.cells_agg, PV.cells_int, PV.cells_bool, Env.put_none, Hp.app_one, List.length_cons, List.length_nil, Nat.reduceAdd, List.take_succ_cons, List.take_zero, List.set_cons_zero, List.drop_zero, Nat.add_zero, Nat.zero_add])
    | refine seqQ_normal ?_
    | refine seqQ_exit ?_
    | refine seqQ_ret ?_
    | refine blkQ_normal ?_
    | refine blkQ_exit ?_
    | refine blkQ_ret ?_
    | refine blkQ_exit_ne rfl ?_
    | refine wp_block' ?_
    | refine wp_skip' ?_
    | refine wp_exit' ?_
    | refine wp_ret' ?_
    | refine ops_val rfl rfl ?_
    | refine ops_plain rfl rfl ?_
    | refine ops_store_ptr rfl rfl rfl rfl rfl ?_
    | refine ops_eqs_f rfl rfl rfl ?_
    | refine ops_eqs_t rfl rfl rfl ?_
    | refine ops_guard rfl ?_
    | refine wp_cond_e rfl ?_
    | with_reducible refine guardK_tt ?_
    | with_reducible refine guardK_ff ?_
    | with_reducible refine guardK_tf ?_
    | with_reducible refine guardK_ft ?_
    | with_reducible refine condK_t ?_
    | with_reducible refine condK_f ?_
    | refine ops_call (f := 94) rfl rfl (p_rflat_sane ..) ?_
    | refine ops_call (f := 96) rfl rfl (p_rflat_kind ..) ?_
    | refine ops_call (f := 95) rfl rfl (p_rflat_made ..) ?_
    | (refine condK_split (fun h => ?_) (fun h => ?_) <;> first | exact (bool_contra h (by assumption)).elim | exact (bool_contra (by assumption) h).elim | exact (bool_contra h (by decide)).elim | exact (bool_contra (by decide) h).elim | rw [h])
    | (refine guardK_split (fun h => ?_) (fun h => ?_) <;> first | exact (bool_contra h (by assumption)).elim | exact (bool_contra (by assumption) h).elim | exact (bool_contra h (by decide)).elim | exact (bool_contra (by decide) h).elim | rw [h])
    | refine fnQ_ret_soft rfl rfl ?_
    | refine fnQ_normal_soft rfl rfl ?_
  all_goals (generalize toV k c = A at *; generalize toV k' c' = B at *; cases A <;> cases B <;> simp_all [V3.sub, V3.each, V3.k, V3.c, o_sub])
theorem p_rflat_Mul (k c k' c' : Int) : Pure Go.Proofs.Try.prog gl 42 [.agg [.int .i64 k, .int .i64 c], .agg [.int .i64 k', .int .i64 c']] (pv ((toV k c).mul (toV k' c'))) := by
  refine Pure.of hmix b42 (wp_fn ?_)
  repeat' first
    | refine wp_seq' ?_
    | refine wp_region_f ?_
    | refine wp_region_t (by kernel_rfl) ?_
    | (refine ops_nil ?_; try simp only [Hp.n_none, Hp.n_app, Hp.n_add, Hp.n_set, Hp.n_addH, PV.cells_agg, PV.cells_int, PV.cells_bool, Env.put_none, Hp.app_one, List.length_cons, List.length_nil, Nat.reduceAdd, List.take_succ_cons, List.take_zero, List.set_cons_zero, List.drop_zero, Nat.add_zero, Nat.zero_add])
    | refine seqQ_normal ?_
    | refine seqQ_exit ?_
    | refine seqQ_ret ?_
    | refine blkQ_normal ?_
    | refine blkQ_exit ?_
    | refine blkQ_ret ?_
    | refine blkQ_exit_ne rfl ?_
    | refine wp_block' ?_
    | refine wp_skip' ?_
    | refine wp_exit' ?_
    | refine wp_ret' ?_
    | refine ops_val rfl rfl ?_
    | refine ops_plain rfl rfl ?_
    | refine ops_store_ptr rfl rfl rfl rfl rfl ?_
    | refine ops_eqs_f rfl rfl rfl ?_
    | refine ops_eqs_t rfl rfl rfl ?_
    | refine ops_guard rfl ?_
    | refine wp_cond_e rfl ?_
    | with_reducible refine guardK_tt ?_
    | with_reducible refine guardK_ff ?_
    | with_reducible refine guardK_tf ?_
    | with_reducible refine guardK_ft ?_
    | with_reducible refine condK_t ?_
    | with_reducible refine condK_f ?_
    | refine ops_call (f := 94) rfl rfl (p_rflat_sane ..) ?_
    | refine ops_call (f := 96) rfl rfl (p_rflat_kind ..) ?_
    | refine ops_call (f := 95) rfl rfl (p_rflat_made ..) ?_
    | (refine condK_split (fun h => ?_) (fun h => ?_) <;> first | exact (bool_contra h (by assumption)).elim | exact (bool_contra (by assumption) h).elim | exact (bool_contra h (by decide)).elim | exact (bool_contra (by decide) h).elim | rw [h])
    | (refine guardK_split (fun h => ?_) (fun h => ?_) <;> first | exact (bool_contra h (by assumption)).elim | exact (bool_contra (by assumption) h).elim | exact (bool_contra h (by decide)).elim | exact (bool_contra (by decide) h).elim | rw [h])
    | refine fnQ_ret_soft rfl rfl ?_
    | refine fnQ_normal_soft rfl rfl ?_
  all_goals (generalize toV k c = A at *; generalize toV k' c' = B at *; cases A <;> cases B <;> simp_all [V3.mul, V3.each, V3.k, V3.c, o_mul])
theorem p_rflat_Neg (k c : Int) : Pure Go.Proofs.Try.prog gl 39 [.agg [.int .i64 k, .int .i64 c]] (pv (toV k c).neg) := by
  refine Pure.of hmix b39 (wp_fn ?_)
  repeat' first
    | refine wp_seq' ?_
    | refine wp_region_f ?_
    | refine wp_region_t (by kernel_rfl) ?_
    | (refine ops_nil ?_; try simp only [Hp.n_none, Hp.n_app, Hp.n_add, Hp.n_set, Hp.n_addH, PV.cells_agg, PV.cells_int, PV.cells_bool, Env.put_none, Hp.app_one, List.length_cons, List.length_nil, Nat.reduceAdd, List.take_succ_cons, List.take_zero, List.set_cons_zero, List.drop_zero, Nat.add_zero, Nat.zero_add])
    | refine seqQ_normal ?_
    | refine seqQ_exit ?_
    | refine seqQ_ret ?_
    | refine blkQ_normal ?_
    | refine blkQ_exit ?_
    | refine blkQ_ret ?_
    | refine blkQ_exit_ne rfl ?_
    | refine wp_block' ?_
    | refine wp_skip' ?_
    | refine wp_exit' ?_
    | refine wp_ret' ?_
    | refine ops_val rfl rfl ?_
    | refine ops_plain rfl rfl ?_
    | refine ops_store_ptr rfl rfl rfl rfl rfl ?_
    | refine ops_eqs_f rfl rfl rfl ?_
    | refine ops_eqs_t rfl rfl rfl ?_
    | refine ops_guard rfl ?_
    | refine wp_cond_e rfl ?_
    | with_reducible refine guardK_tt ?_
    | with_reducible refine guardK_ff ?_
    | with_reducible refine guardK_tf ?_
    | with_reducible refine guardK_ft ?_
    | with_reducible refine condK_t ?_
    | with_reducible refine condK_f ?_
    | refine ops_call (f := 94) rfl rfl (p_rflat_sane ..) ?_
    | refine ops_call (f := 95) rfl rfl (p_rflat_made ..) ?_
    | (refine condK_split (fun h => ?_) (fun h => ?_) <;> first | exact (bool_contra h (by assumption)).elim | exact (bool_contra (by assumption) h).elim | exact (bool_contra h (by decide)).elim | exact (bool_contra (by decide) h).elim | rw [h])
    | (refine guardK_split (fun h => ?_) (fun h => ?_) <;> first | exact (bool_contra h (by assumption)).elim | exact (bool_contra (by assumption) h).elim | exact (bool_contra h (by decide)).elim | exact (bool_contra (by decide) h).elim | rw [h])
    | refine fnQ_ret_soft rfl rfl ?_
    | refine fnQ_normal_soft rfl rfl ?_
  all_goals (generalize toV k c = A at *; cases A <;> simp_all [V3.neg, V3.sub, V3.each, V3.k, V3.c])
  all_goals exact o_neg _
theorem p_rflat_Height (k c : Int) : Pure Go.Proofs.Try.prog gl 38 [.agg [.int .i64 k, .int .i64 c]] (.int .i64 (toV k c).k) := by
  refine Pure.of hmix b38 (wp_fn ?_)
  repeat' first
    | refine wp_seq' ?_
    | refine wp_region_f ?_
    | refine wp_region_t (by kernel_rfl) ?_
    | (refine ops_nil ?_; try simp only [Hp.n_none, Hp.n_app, Hp.n_add, Hp.n_set, Hp.n_addH, PV.cells_agg, PV.cells_int, PV.cells_bool, Env.put_none, Hp.app_one, List.length_cons, List.length_nil, Nat.reduceAdd, List.take_succ_cons, List.take_zero, List.set_cons_zero, List.drop_zero, Nat.add_zero, Nat.zero_add])
    | refine seqQ_normal ?_
    | refine seqQ_exit ?_
    | refine seqQ_ret ?_
    | refine blkQ_normal ?_
    | refine blkQ_exit ?_
    | refine blkQ_ret ?_
    | refine blkQ_exit_ne rfl ?_
    | refine wp_block' ?_
    | refine wp_skip' ?_
    | refine wp_exit' ?_
    | refine wp_ret' ?_
    | refine ops_val rfl rfl ?_
    | refine ops_plain rfl rfl ?_
    | refine ops_store_ptr rfl rfl rfl rfl rfl ?_
    | refine ops_eqs_f rfl rfl rfl ?_
    | refine ops_eqs_t rfl rfl rfl ?_
    | refine ops_guard rfl ?_
    | refine wp_cond_e rfl ?_
    | with_reducible refine guardK_tt ?_
    | with_reducible refine guardK_ff ?_
    | with_reducible refine guardK_tf ?_
    | with_reducible refine guardK_ft ?_
    | with_reducible refine condK_t ?_
    | with_reducible refine condK_f ?_
    | refine ops_call (f := 94) rfl rfl (p_rflat_sane ..) ?_
    | (refine condK_split (fun h => ?_) (fun h => ?_) <;> first | exact (bool_contra h (by assumption)).elim | exact (bool_contra (by assumption) h).elim | exact (bool_contra h (by decide)).elim | exact (bool_contra (by decide) h).elim | rw [h])
    | (refine guardK_split (fun h => ?_) (fun h => ?_) <;> first | exact (bool_contra h (by assumption)).elim | exact (bool_contra (by assumption) h).elim | exact (bool_contra h (by decide)).elim | exact (bool_contra (by decide) h).elim | rw [h])
    | refine fnQ_ret_soft rfl rfl ?_
    | refine fnQ_normal_soft rfl rfl ?_
  rfl
end

end Go.Vm
