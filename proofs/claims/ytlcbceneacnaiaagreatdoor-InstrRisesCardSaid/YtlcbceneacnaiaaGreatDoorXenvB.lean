/- Laid. -/
import Derived.Test.YtlcbceneacnaiaaGreatDoorVmThree
import Derived.KernelRfl
import Derived.Test.YtlcbceneacnaiaaGreatDoorProg
import Derived.Test.YtlcbceneacnaiaaGreatDoorXenvA
section
/- Code. -/
set_option maxRecDepth 100000
set_option linter.unusedSimpArgs false
set_option linter.unusedVariables false
namespace Go.Vm
open Go
def c19 : RFn := ⟨(.seq (.region (Nodes.flat none (.op (some 2) (.box (.t 0)) 0
  (.op (some 3) (.box (.t 1)) 0
  (.op (some 4) (.alloc (.agg [(.bool false), (.lit [])])) 0
  .nil)))) false)
 (.seq (.region (Nodes.flat none (.op (some 5) (.call 44 []) 0
  (.op (some 6) (.load (some 2) (.t 2)) 0
  (.op (some 7) (.load (some 2) (.t 3)) 0
  (.op (some 8) (.call 45 [(.t 5), (.t 6), (.t 7)]) 7
  (.op none (.store 2 (.t 4) (.t 8)) 15
  .nil)))))) true)
 .ret)),
 [.cell (some 2) 4]⟩
theorem b19 : fnOf Go.Proofs.Tryz.prog (owOf []) 19 = some c19 := by kernel_rfl
def c24 : RFn := ⟨(.seq (.region (Nodes.flat none (.op (some 2) (.box (.t 0)) 0
  (.op (some 3) (.box (.t 1)) 0
  (.op (some 4) (.move (.c (.bool false))) 0
  .nil)))) false)
 (.seq (.region (Nodes.flat none (.op (some 5) (.call 44 []) 0
  (.op (some 6) (.load (some 2) (.t 2)) 0
  (.op (some 7) (.load (some 2) (.t 3)) 0
  (.op (some 8) (.call 53 [(.t 5), (.t 6), (.t 7)]) 7
  (.op (some 4) (.move (.t 8)) 15
  .nil)))))) true)
 .ret)),
 [.tmp 4]⟩
theorem b24 : fnOf Go.Proofs.Tryz.prog (owOf []) 24 = some c24 := by kernel_rfl
def c31 : RFn := ⟨(.seq (.region (Nodes.flat none (.op (some 3) (.box (.t 0)) 0
  (.op (some 5) (.box (.t 2)) 0
  (.op (some 6) (.alloc (.agg [(.bool false), (.lit [])])) 0
  .nil)))) false)
 (.seq (.region (Nodes.flat none (.op (some 7) (.call 44 []) 0
  (.op (some 8) (.load (some 2) (.t 3)) 0
  (.op (some 9) (.move (.t 1)) 0
  (.op (some 10) (.load (some 2) (.t 5)) 0
  (.op (some 11) (.call 60 [(.t 7), (.t 8), (.t 9), (.t 10)]) 15
  (.op none (.store 2 (.t 6) (.t 11)) 31
  .nil))))))) true)
 .ret)),
 [.cell (some 2) 6]⟩
theorem b31 : fnOf Go.Proofs.Tryz.prog (owOf []) 31 = some c31 := by kernel_rfl
def c61 : RFn := ⟨(.seq (.region (Nodes.flat none (.op (some 2) (.box (.t 0)) 0
  (.op (some 4) (.alloc (.agg [(.int .i64 0), (.int .i64 0)])) 0
  .nil))) false)
 (.seq (.region (Nodes.flat none (.op (some 5) (.call 44 []) 0
  (.op (some 6) (.load (some 2) (.t 2)) 0
  (.op (some 7) (.move (.t 1)) 0
  (.op (some 8) (.call 98 [(.t 5), (.t 6), (.t 7)]) 7
  (.op none (.store 2 (.t 4) (.t 8)) 15
  .nil)))))) true)
 .ret)),
 [.cell (some 2) 4]⟩
theorem b61 : fnOf Go.Proofs.Tryz.prog (owOf []) 61 = some c61 := by kernel_rfl
end Go.Vm
end
section
/- Walks. -/
set_option maxRecDepth 100000
set_option linter.unusedSimpArgs false
set_option linter.unusedVariables false
namespace Go.Vm
open Go
section
variable {gl : Nat → Option PV}
set_option maxHeartbeats 4000000
theorem p_env_GetFlat {p : PV} {e : Option (List V3)} (i : Int) (h : RepE pq fq p e) : Pure Go.Proofs.Tryz.prog gl 61 [p, .int .i64 i] (pv (eGet .bot e i)) := by
  obtain ⟨on, l, rfl, rfl, hl⟩ := h
  refine Pure.fn hmix b61 ?_
  repeat' first
    | with_reducible refine tr_seq ?_
    | ((with_reducible refine tr_region_f ?_ ?_); kernel_rfl)
    | ((with_reducible refine tr_region_t ?_ ?_ ?_); kernel_rfl; kernel_rfl)
    | with_reducible refine n_nil ?_
    | with_reducible refine seqQ_normal ?_
    | with_reducible refine seqQ_ret ?_
    | with_reducible refine blkQ_ret ?_
    | with_reducible refine tr_ret ?_
    | ((with_reducible apply n_val); rfl; rfl)
    | ((with_reducible apply n_new); rfl; (first | (simp only [hn0, hn1, hn2, hn3, hn4, hn5, List.length_cons, List.length_nil, Nat.reduceAdd, Nat.zero_add]; done) | (simp only [hn0, hn1, hn2, hn3, hn4, hn5, List.length_cons, List.length_nil, Nat.reduceAdd, Nat.zero_add]; rfl) | rfl); rfl)
    | ((with_reducible apply n_store); rfl; rfl; rfl; rfl; rfl)
    | ((with_reducible apply n_call (f := 44)); rfl; rfl; exact p_env_flats)
    | ((with_reducible apply n_call (f := 98)); rfl; rfl; exact p_envf_get ..)
    | ((with_reducible apply fnQ_told_ret); rfl)
    | ((with_reducible apply fnQ_ret_soft); rfl; rfl)
  rfl
theorem p_env_SetFlat {p : PV} {e : Option (List V3)} (i k c : Int) (h : RepE pq fq p e) : Pure Go.Proofs.Tryz.prog gl 31 [p, .int .i64 i, .agg [.int .i64 k, .int .i64 c]] (eOut pv (eSet e i (toV k c))) := by
  obtain ⟨on, l, rfl, rfl, hl⟩ := h
  refine Pure.fn hmix b31 ?_
  repeat' first
    | with_reducible refine tr_seq ?_
    | ((with_reducible refine tr_region_f ?_ ?_); kernel_rfl)
    | ((with_reducible refine tr_region_t ?_ ?_ ?_); kernel_rfl; kernel_rfl)
    | with_reducible refine n_nil ?_
    | with_reducible refine seqQ_normal ?_
    | with_reducible refine seqQ_ret ?_
    | with_reducible refine blkQ_ret ?_
    | with_reducible refine tr_ret ?_
    | ((with_reducible apply n_val); rfl; rfl)
    | ((with_reducible apply n_new); rfl; (first | (simp only [hn0, hn1, hn2, hn3, hn4, hn5, List.length_cons, List.length_nil, Nat.reduceAdd, Nat.zero_add]; done) | (simp only [hn0, hn1, hn2, hn3, hn4, hn5, List.length_cons, List.length_nil, Nat.reduceAdd, Nat.zero_add]; rfl) | rfl); rfl)
    | ((with_reducible apply n_store); rfl; rfl; rfl; rfl; rfl)
    | ((with_reducible apply n_call (f := 44)); rfl; rfl; exact p_env_flats)
    | ((with_reducible apply n_call (f := 60)); rfl; rfl; exact p_envf_set _ _ _ _ _ (by omega))
    | ((with_reducible apply fnQ_told_ret); rfl)
    | ((with_reducible apply fnQ_ret_soft); rfl; rfl)
  rfl
theorem p_env_JoinFlat {p q : PV} {e f : Option (List V3)} (h : RepE pq fq p e) (k : RepE pq fq q f) : Pure Go.Proofs.Tryz.prog gl 19 [p, q] (eOut pv (eJoin .bot V3.join e f)) := by
  obtain ⟨on, l, rfl, rfl, hl⟩ := h
  obtain ⟨on', l', rfl, rfl, hl'⟩ := k
  refine Pure.fn hmix b19 ?_
  repeat' first
    | with_reducible refine tr_seq ?_
    | ((with_reducible refine tr_region_f ?_ ?_); kernel_rfl)
    | ((with_reducible refine tr_region_t ?_ ?_ ?_); kernel_rfl; kernel_rfl)
    | with_reducible refine n_nil ?_
    | with_reducible refine seqQ_normal ?_
    | with_reducible refine seqQ_ret ?_
    | with_reducible refine blkQ_ret ?_
    | with_reducible refine tr_ret ?_
    | ((with_reducible apply n_val); rfl; rfl)
    | ((with_reducible apply n_new); rfl; (first | (simp only [hn0, hn1, hn2, hn3, hn4, hn5, List.length_cons, List.length_nil, Nat.reduceAdd, Nat.zero_add]; done) | (simp only [hn0, hn1, hn2, hn3, hn4, hn5, List.length_cons, List.length_nil, Nat.reduceAdd, Nat.zero_add]; rfl) | rfl); rfl)
    | ((with_reducible apply n_store); rfl; rfl; rfl; rfl; rfl)
    | ((with_reducible apply n_call (f := 44)); rfl; rfl; exact p_env_flats)
    | ((with_reducible apply n_call (f := 45)); rfl; rfl; exact p_envf_joined _ _ _ _ (by omega) (by omega))
    | ((with_reducible apply fnQ_told_ret); rfl)
    | ((with_reducible apply fnQ_ret_soft); rfl; rfl)
  rfl
theorem p_env_LeqFlat {p q : PV} {e f : Option (List V3)} (h : RepE pq fq p e) (k : RepE pq fq q f) : Pure Go.Proofs.Tryz.prog gl 24 [p, q] (.bool (eLeq .bot V3.leq e f)) := by
  obtain ⟨on, l, rfl, rfl, hl⟩ := h
  obtain ⟨on', l', rfl, rfl, hl'⟩ := k
  refine Pure.fn hmix b24 ?_
  repeat' first
    | with_reducible refine tr_seq ?_
    | ((with_reducible refine tr_region_f ?_ ?_); kernel_rfl)
    | ((with_reducible refine tr_region_t ?_ ?_ ?_); kernel_rfl; kernel_rfl)
    | with_reducible refine n_nil ?_
    | with_reducible refine seqQ_normal ?_
    | with_reducible refine seqQ_ret ?_
    | with_reducible refine blkQ_ret ?_
    | with_reducible refine tr_ret ?_
    | ((with_reducible apply n_val); rfl; rfl)
    | ((with_reducible apply n_new); rfl; (first | (simp only [hn0, hn1, hn2, hn3, hn4, hn5, List.length_cons, List.length_nil, Nat.reduceAdd, Nat.zero_add]; done) | (simp only [hn0, hn1, hn2, hn3, hn4, hn5, List.length_cons, List.length_nil, Nat.reduceAdd, Nat.zero_add]; rfl) | rfl); rfl)
    | ((with_reducible apply n_call (f := 44)); rfl; rfl; exact p_env_flats)
    | ((with_reducible apply n_call (f := 53)); rfl; rfl; exact p_envf_below _ _ _ _ (by omega) (by omega))
    | ((with_reducible apply fnQ_told_ret); rfl)
    | ((with_reducible apply fnQ_ret_soft); rfl; rfl)
  rfl
end
end Go.Vm
end
