/- Walks. -/
import Derived.Test.YtjegabeechopdaaCflatC
import Derived.Test.YtjegabeechopdaaWflatB
import Derived.Test.YtjegabeechopdaaLFlatN
set_option maxRecDepth 100000
set_option linter.unusedSimpArgs false
set_option linter.unusedVariables false
namespace Go.Vm
open Go

section
variable {gl : Nat → Option PV}

theorem p_law02_awake : Pure Go.Proofs.Try.prog gl 20 [] (.bool true) := by
  refine Pure.fn hmix b20 ?_
  repeat' first
    | with_reducible refine tr_seq ?_
    | ((with_reducible refine tr_region_f ?_ ?_); kernel_rfl)
    | with_reducible refine n_nil ?_
    | exact ⟨rfl, rfl⟩
    | with_reducible refine seqQ_normal ?_
    | with_reducible refine seqQ_ret ?_
    | with_reducible refine blkQ_ret ?_
    | with_reducible refine tr_ret ?_
    | ((with_reducible apply n_and); rfl; rfl; intro h)
    | ((with_reducible apply n_or); rfl; rfl; intro h)
    | ((with_reducible apply n_val); rfl; rfl)
    | ((with_reducible apply n_eqs_f); rfl; rfl; rfl)
    | ((with_reducible apply n_call (f := 26)); rfl; rfl; exact p_flat_Of ..)
    | ((with_reducible apply n_call (f := 27)); rfl; rfl; exact p_flat_Add ..)
    | ((with_reducible apply n_call (f := 22)); rfl; rfl; exact p_flat_Join ..)
    | ((with_reducible apply n_call (f := 25)); rfl; rfl; exact p_flat_Height ..)
    | ((with_reducible apply fnQ_ret_soft); rfl; rfl)
  all_goals simp_all only [toV_kc]
  all_goals rfl
theorem p_law02_ours (k c : Int) : Pure Go.Proofs.Try.prog gl 21 [.agg [.int .i64 k, .int .i64 c]] (.agg [.int .i64 k, .int .i64 c]) := by
  refine Pure.fn hmix b21 ?_
  repeat' first
    | with_reducible refine tr_seq ?_
    | ((with_reducible refine tr_region_f ?_ ?_); kernel_rfl)
    | with_reducible refine n_nil ?_
    | with_reducible refine seqQ_normal ?_
    | with_reducible refine seqQ_ret ?_
    | with_reducible refine blkQ_ret ?_
    | with_reducible refine tr_ret ?_
    | ((with_reducible apply n_val); rfl; rfl)
    | ((with_reducible apply n_new); rfl; (first | (simp only [hn0, hn1, hn2, hn3, hn4, List.length_cons, List.length_nil, Nat.reduceAdd, Nat.zero_add]; done) | (simp only [hn0, hn1, hn2, hn3, hn4, List.length_cons, List.length_nil, Nat.reduceAdd, Nat.zero_add]; rfl) | rfl); rfl)
    | ((with_reducible apply n_store); rfl; rfl; rfl; rfl; rfl)
    | ((with_reducible apply fnQ_ret_soft); rfl; rfl)
  rfl
theorem p_law02_theirs (k c : Int) : Pure Go.Proofs.Try.prog gl 32 [.agg [.int .i64 k, .int .i64 c]] (.agg [.int .i64 k, .int .i64 c]) := by
  refine Pure.fn hmix b32 ?_
  repeat' first
    | with_reducible refine tr_seq ?_
    | ((with_reducible refine tr_region_f ?_ ?_); kernel_rfl)
    | with_reducible refine n_nil ?_
    | with_reducible refine seqQ_normal ?_
    | with_reducible refine seqQ_ret ?_
    | with_reducible refine blkQ_ret ?_
    | with_reducible refine tr_ret ?_
    | ((with_reducible apply n_val); rfl; rfl)
    | ((with_reducible apply n_new); rfl; (first | (simp only [hn0, hn1, hn2, hn3, hn4, List.length_cons, List.length_nil, Nat.reduceAdd, Nat.zero_add]; done) | (simp only [hn0, hn1, hn2, hn3, hn4, List.length_cons, List.length_nil, Nat.reduceAdd, Nat.zero_add]; rfl) | rfl); rfl)
    | ((with_reducible apply n_store); rfl; rfl; rfl; rfl; rfl)
    | ((with_reducible apply fnQ_ret_soft); rfl; rfl)
  rfl
set_option maxHeartbeats 4000000 in
theorem l_FlatIs (k c k' c' n : Int) : Pure Go.Proofs.Try.prog gl 7 [.agg [.int .i64 k, .int .i64 c], .agg [.int .i64 k', .int .i64 c'], .int .i64 n] (.bool true) := by
  refine Pure.fn hmix b7 ?_
  repeat' first
    | with_reducible refine tr_seq ?_
    | ((with_reducible refine tr_region_f ?_ ?_); kernel_rfl)
    | ((with_reducible refine tr_region_t ?_ ?_ ?_); kernel_rfl; kernel_rfl)
    | with_reducible refine n_nil ?_
    | exact ⟨rfl, rfl⟩
    | with_reducible refine seqQ_normal ?_
    | with_reducible refine seqQ_ret ?_
    | with_reducible refine blkQ_ret ?_
    | with_reducible refine tr_skip ?_
    | with_reducible refine tr_ret ?_
    | ((with_reducible apply tr_cond_e); rfl)
    | with_reducible refine condT_t ?_
    | with_reducible refine condT_f ?_
    | ((with_reducible apply n_and); rfl; rfl; intro h)
    | ((with_reducible apply n_or); rfl; rfl; intro h)
    | ((with_reducible apply n_val); rfl; rfl)
    | ((with_reducible apply n_new); rfl; (first | (simp only [hn0, hn1, hn2, hn3, hn4, List.length_cons, List.length_nil, Nat.reduceAdd, Nat.zero_add]; done) | (simp only [hn0, hn1, hn2, hn3, hn4, List.length_cons, List.length_nil, Nat.reduceAdd, Nat.zero_add]; rfl) | rfl); rfl)
    | ((with_reducible apply n_store); rfl; rfl; rfl; rfl; rfl)
    | ((with_reducible apply n_eqs_f); rfl; rfl; rfl)
    | ((with_reducible apply n_eqs_t); rfl; rfl; rfl)
    | ((with_reducible apply n_call (f := 20)); rfl; rfl; exact p_law02_awake)
    | ((with_reducible apply n_call (f := 21)); rfl; rfl; exact p_law02_ours ..)
    | ((with_reducible apply n_call (f := 32)); rfl; rfl; exact p_law02_theirs ..)
    | ((with_reducible apply n_call (f := 24)); rfl; rfl; exact p_flat_Sane ..)
    | ((with_reducible apply n_call (f := 31)); rfl; rfl; exact p_rflat_Sane ..)
    | ((with_reducible apply n_call (f := 22)); rfl; rfl; exact p_flat_Join ..)
    | ((with_reducible apply n_call (f := 33)); rfl; rfl; exact p_rflat_Join ..)
    | ((with_reducible apply n_call (f := 23)); rfl; rfl; exact p_flat_Leq ..)
    | ((with_reducible apply n_call (f := 34)); rfl; rfl; exact p_rflat_Leq ..)
    | ((with_reducible apply n_call (f := 35)); rfl; rfl; exact p_flat_Wrap ..)
    | ((with_reducible apply n_call (f := 36)); rfl; rfl; exact p_rflat_Wrap ..)
    | ((with_reducible apply n_call (f := 26)); rfl; rfl; exact p_flat_Of ..)
    | ((with_reducible apply n_call (f := 37)); rfl; rfl; exact p_rflat_Of ..)
    | ((with_reducible apply n_call (f := 25)); rfl; rfl; exact p_flat_Height ..)
    | ((with_reducible apply n_call (f := 38)); rfl; rfl; exact p_rflat_Height ..)
    | ((with_reducible apply n_call (f := 29)); rfl; rfl; exact p_flat_Neg ..)
    | ((with_reducible apply n_call (f := 39)); rfl; rfl; exact p_rflat_Neg ..)
    | ((with_reducible apply n_call (f := 27)); rfl; rfl; exact p_flat_Add ..)
    | ((with_reducible apply n_call (f := 40)); rfl; rfl; exact p_rflat_Add ..)
    | ((with_reducible apply n_call (f := 28)); rfl; rfl; exact p_flat_Sub ..)
    | ((with_reducible apply n_call (f := 41)); rfl; rfl; exact p_rflat_Sub ..)
    | ((with_reducible apply n_call (f := 30)); rfl; rfl; exact p_flat_Mul ..)
    | ((with_reducible apply n_call (f := 42)); rfl; rfl; exact p_rflat_Mul ..)
    | (with_reducible refine condT_split (fun h => ?_) (fun h => ?_))
    | ((with_reducible apply fnQ_ret_soft); rfl; rfl)
  all_goals simp_all
end

end Go.Vm
