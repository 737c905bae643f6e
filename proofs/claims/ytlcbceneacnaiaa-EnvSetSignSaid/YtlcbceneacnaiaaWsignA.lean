/- Laid. -/
import Derived.Test.YtlcbceneacnaiaaCsignA
import Derived.Test.YtlcbceneacnaiaaWflatB
import Derived.Test.YtlcbceneacnaiaaLSign
/- Walks. -/
set_option maxRecDepth 100000
set_option linter.unusedSimpArgs false
set_option linter.unusedVariables false
namespace Go.Vm
open Go

section
variable {gl : Nat → Option PV}
set_option maxHeartbeats 4000000

theorem p_sign_Sane (s : Int) (h : i64r s) : Pure Go.Proofs.Try.prog gl 76 [.int .i64 s] (.bool (decide (0 ≤ s ∧ s ≤ 7))) := by
  refine Pure.fn hmix b76 ?_
  repeat' first
    | with_reducible refine tr_seq ?_
    | ((with_reducible refine tr_region_f ?_ ?_); kernel_rfl)
    | with_reducible refine n_nil ?_
    | with_reducible refine seqQ_normal ?_
    | with_reducible refine seqQ_ret ?_
    | with_reducible refine blkQ_ret ?_
    | with_reducible refine tr_ret ?_
    | ((with_reducible apply n_val); rfl; rfl)
    | ((with_reducible apply fnQ_told_ret); rfl)
    | ((with_reducible apply fnQ_ret_soft); rfl; rfl)
  exact congrArg PV.bool (sane_bits s h)

theorem p_sign_sane (s : Int) (h : i64r s) : Pure Go.Proofs.Try.prog gl 62 [.int .i64 s] (.int .i64 (sn s)) := by
  refine Pure.fn hmix b62 ?_
  repeat' first
    | with_reducible refine tr_seq ?_
    | ((with_reducible refine tr_region_f ?_ ?_); kernel_rfl)
    | with_reducible refine n_nil ?_
    | with_reducible refine seqQ_normal ?_
    | with_reducible refine seqQ_ret ?_
    | with_reducible refine blkQ_ret ?_
    | with_reducible refine tr_skip ?_
    | with_reducible refine tr_ret ?_
    | ((with_reducible apply tr_cond_e); rfl)
    | with_reducible refine condT_t ?_
    | with_reducible refine condT_f ?_
    | ((with_reducible apply n_val); rfl; rfl)
    | ((with_reducible apply n_call (f := 76)); rfl; rfl; exact p_sign_Sane _ h)
    | (with_reducible refine condT_split (fun h => ?_) (fun h => ?_))
    | ((with_reducible apply fnQ_told_ret); rfl)
    | ((with_reducible apply fnQ_ret_soft); rfl; rfl)
  all_goals (simp_all [sn]; try omega)

theorem p_sign_Join (a b : Int) (ha : i64r a) (hb : i64r b) : Pure Go.Proofs.Try.prog gl 39 [.int .i64 a, .int .i64 b] (.int .i64 (sJoin a b)) := by
  refine Pure.fn hmix b39 ?_
  repeat' first
    | with_reducible refine tr_seq ?_
    | ((with_reducible refine tr_region_f ?_ ?_); kernel_rfl)
    | with_reducible refine n_nil ?_
    | with_reducible refine seqQ_normal ?_
    | with_reducible refine seqQ_ret ?_
    | with_reducible refine blkQ_ret ?_
    | with_reducible refine tr_ret ?_
    | ((with_reducible apply n_val); rfl; rfl)
    | ((with_reducible apply n_call (f := 62)); rfl; rfl; exact p_sign_sane _ ha)
    | ((with_reducible apply n_call (f := 62)); rfl; rfl; exact p_sign_sane _ hb)
    | ((with_reducible apply fnQ_told_ret); rfl)
    | ((with_reducible apply fnQ_ret_soft); rfl; rfl)
  rfl

theorem p_sign_Leq (a b : Int) (ha : i64r a) (hb : i64r b) : Pure Go.Proofs.Try.prog gl 68 [.int .i64 a, .int .i64 b] (.bool (sLeq a b)) := by
  refine Pure.fn hmix b68 ?_
  repeat' first
    | with_reducible refine tr_seq ?_
    | ((with_reducible refine tr_region_f ?_ ?_); kernel_rfl)
    | with_reducible refine n_nil ?_
    | with_reducible refine seqQ_normal ?_
    | with_reducible refine seqQ_ret ?_
    | with_reducible refine blkQ_ret ?_
    | with_reducible refine tr_ret ?_
    | ((with_reducible apply n_val); rfl; rfl)
    | ((with_reducible apply n_call (f := 62)); rfl; rfl; exact p_sign_sane _ ha)
    | ((with_reducible apply n_call (f := 62)); rfl; rfl; exact p_sign_sane _ hb)
    | ((with_reducible apply fnQ_told_ret); rfl)
    | ((with_reducible apply fnQ_ret_soft); rfl; rfl)
  rfl

end

end Go.Vm
