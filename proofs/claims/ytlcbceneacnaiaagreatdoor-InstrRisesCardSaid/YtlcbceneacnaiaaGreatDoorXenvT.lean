/- Laid. -/
import Derived.Test.YtlcbceneacnaiaaGreatDoorVmThree
import Derived.KernelRfl
import Derived.Test.YtlcbceneacnaiaaGreatDoorProg
import Derived.Test.YtlcbceneacnaiaaGreatDoorXenvS
section
/- Code. -/
set_option maxRecDepth 100000
set_option linter.unusedSimpArgs false
set_option linter.unusedVariables false
namespace Go.Vm
open Go
def c20 : RFn := ⟨(.seq (.region (Nodes.flat none (.op (some 2) (.box (.t 0)) 0
  (.op (some 3) (.box (.t 1)) 0
  (.op (some 4) (.alloc (.agg [(.bool false), (.lit [])])) 0
  .nil)))) false)
 (.seq (.region (Nodes.flat none (.op (some 5) (.call 46 []) 0
  (.op (some 6) (.load (some 2) (.t 2)) 0
  (.op (some 7) (.load (some 2) (.t 3)) 0
  (.op (some 8) (.call 47 [(.t 5), (.t 6), (.t 7)]) 7
  (.op none (.store 2 (.t 4) (.t 8)) 15
  .nil)))))) true)
 .ret)),
 [.cell (some 2) 4]⟩
theorem b20 : fnOf Go.Proofs.Tryz.prog (owOf []) 20 = some c20 := by kernel_rfl
def c25 : RFn := ⟨(.seq (.region (Nodes.flat none (.op (some 2) (.box (.t 0)) 0
  (.op (some 3) (.box (.t 1)) 0
  (.op (some 4) (.move (.c (.bool false))) 0
  .nil)))) false)
 (.seq (.region (Nodes.flat none (.op (some 5) (.call 46 []) 0
  (.op (some 6) (.load (some 2) (.t 2)) 0
  (.op (some 7) (.load (some 2) (.t 3)) 0
  (.op (some 8) (.call 54 [(.t 5), (.t 6), (.t 7)]) 7
  (.op (some 4) (.move (.t 8)) 15
  .nil)))))) true)
 .ret)),
 [.tmp 4]⟩
theorem b25 : fnOf Go.Proofs.Tryz.prog (owOf []) 25 = some c25 := by kernel_rfl
def c37 : RFn := ⟨(.seq (.region (Nodes.flat none (.op (some 3) (.box (.t 0)) 0
  (.op (some 6) (.alloc (.agg [(.bool false), (.lit [])])) 0
  .nil))) false)
 (.seq (.region (Nodes.flat none (.op (some 7) (.call 46 []) 0
  (.op (some 8) (.load (some 2) (.t 3)) 0
  (.op (some 9) (.move (.t 1)) 0
  (.op (some 10) (.move (.t 2)) 0
  (.op (some 11) (.call 78 [(.t 7), (.t 8), (.t 9), (.t 10)]) 15
  (.op none (.store 2 (.t 6) (.t 11)) 31
  .nil))))))) true)
 .ret)),
 [.cell (some 2) 6]⟩
theorem b37 : fnOf Go.Proofs.Tryz.prog (owOf []) 37 = some c37 := by kernel_rfl
def c79 : RFn := ⟨(.seq (.region (Nodes.flat none (.op (some 2) (.box (.t 0)) 0
  (.op (some 4) (.move (.c (.int .i64 0))) 0
  .nil))) false)
 (.seq (.region (Nodes.flat none (.op (some 5) (.call 46 []) 0
  (.op (some 6) (.load (some 2) (.t 2)) 0
  (.op (some 7) (.move (.t 1)) 0
  (.op (some 8) (.call 102 [(.t 5), (.t 6), (.t 7)]) 7
  (.op (some 4) (.move (.t 8)) 15
  .nil)))))) true)
 .ret)),
 [.tmp 4]⟩
theorem b79 : fnOf Go.Proofs.Tryz.prog (owOf []) 79 = some c79 := by kernel_rfl
end Go.Vm
end
section
/- Walks. -/
set_option maxRecDepth 100000
set_option linter.unusedSimpArgs false
set_option linter.unusedVariables false
namespace Go.Vm
open Go
section
variable {gl : Nat → Option PV}
set_option maxHeartbeats 4000000
theorem p_env_GetSign {p : PV} {e : Option (List S8)} (i : Int) (h : RepE pi s8 p e) : Pure Go.Proofs.Tryz.prog gl 79 [p, .int .i64 i] (ps (eGet z8 e i)) := by
  obtain ⟨on, l, rfl, rfl, hl⟩ := h
  refine Pure.fn hmix b79 ?_
  repeat' first
    | with_reducible refine tr_seq ?_
    | ((with_reducible refine tr_region_f ?_ ?_); kernel_rfl)
    | ((with_reducible refine tr_region_t ?_ ?_ ?_); kernel_rfl; kernel_rfl)
    | with_reducible refine n_nil ?_
    | with_reducible refine seqQ_normal ?_
    | with_reducible refine seqQ_ret ?_
    | with_reducible refine blkQ_ret ?_
    | with_reducible refine tr_ret ?_
    | ((with_reducible apply n_val); rfl; rfl)
    | ((with_reducible apply n_new); rfl; (first | (simp only [hn0, hn1, hn2, hn3, hn4, hn5, List.length_cons, List.length_nil, Nat.reduceAdd, Nat.zero_add]; done) | (simp only [hn0, hn1, hn2, hn3, hn4, hn5, List.length_cons, List.length_nil, Nat.reduceAdd, Nat.zero_add]; rfl) | rfl); rfl)
    | ((with_reducible apply n_call (f := 46)); rfl; rfl; exact p_env_signs)
    | ((with_reducible apply n_call (f := 102)); rfl; rfl; exact p_envs_get ..)
    | ((with_reducible apply fnQ_told_ret); rfl)
    | ((with_reducible apply fnQ_ret_soft); rfl; rfl)
  rfl
theorem p_env_SetSign {p : PV} {e : Option (List S8)} (i : Int) (c : I64) (h : RepE pi s8 p e) : Pure Go.Proofs.Tryz.prog gl 37 [p, .int .i64 i, pi c] (eOut ps (eSet e i (s8 c))) := by
  obtain ⟨on, l, rfl, rfl, hl⟩ := h
  refine Pure.fn hmix b37 ?_
  repeat' first
    | with_reducible refine tr_seq ?_
    | ((with_reducible refine tr_region_f ?_ ?_); kernel_rfl)
    | ((with_reducible refine tr_region_t ?_ ?_ ?_); kernel_rfl; kernel_rfl)
    | with_reducible refine n_nil ?_
    | with_reducible refine seqQ_normal ?_
    | with_reducible refine seqQ_ret ?_
    | with_reducible refine blkQ_ret ?_
    | with_reducible refine tr_ret ?_
    | ((with_reducible apply n_val); rfl; rfl)
    | ((with_reducible apply n_new); rfl; (first | (simp only [hn0, hn1, hn2, hn3, hn4, hn5, List.length_cons, List.length_nil, Nat.reduceAdd, Nat.zero_add]; done) | (simp only [hn0, hn1, hn2, hn3, hn4, hn5, List.length_cons, List.length_nil, Nat.reduceAdd, Nat.zero_add]; rfl) | rfl); rfl)
    | ((with_reducible apply n_store); rfl; rfl; rfl; rfl; rfl)
    | ((with_reducible apply n_call (f := 46)); rfl; rfl; exact p_env_signs)
    | ((with_reducible apply n_call (f := 78)); rfl; rfl; exact p_envs_set _ _ _ _ (by omega))
    | ((with_reducible apply fnQ_told_ret); rfl)
    | ((with_reducible apply fnQ_ret_soft); rfl; rfl)
  rfl
theorem p_env_JoinSign {p q : PV} {e f : Option (List S8)} (h : RepE pi s8 p e) (k : RepE pi s8 q f) : Pure Go.Proofs.Tryz.prog gl 20 [p, q] (eOut ps (eJoin z8 S8.join e f)) := by
  obtain ⟨on, l, rfl, rfl, hl⟩ := h
  obtain ⟨on', l', rfl, rfl, hl'⟩ := k
  refine Pure.fn hmix b20 ?_
  repeat' first
    | with_reducible refine tr_seq ?_
    | ((with_reducible refine tr_region_f ?_ ?_); kernel_rfl)
    | ((with_reducible refine tr_region_t ?_ ?_ ?_); kernel_rfl; kernel_rfl)
    | with_reducible refine n_nil ?_
    | with_reducible refine seqQ_normal ?_
    | with_reducible refine seqQ_ret ?_
    | with_reducible refine blkQ_ret ?_
    | with_reducible refine tr_ret ?_
    | ((with_reducible apply n_val); rfl; rfl)
    | ((with_reducible apply n_new); rfl; (first | (simp only [hn0, hn1, hn2, hn3, hn4, hn5, List.length_cons, List.length_nil, Nat.reduceAdd, Nat.zero_add]; done) | (simp only [hn0, hn1, hn2, hn3, hn4, hn5, List.length_cons, List.length_nil, Nat.reduceAdd, Nat.zero_add]; rfl) | rfl); rfl)
    | ((with_reducible apply n_store); rfl; rfl; rfl; rfl; rfl)
    | ((with_reducible apply n_call (f := 46)); rfl; rfl; exact p_env_signs)
    | ((with_reducible apply n_call (f := 47)); rfl; rfl; exact p_envs_joined _ _ _ _ (by omega) (by omega))
    | ((with_reducible apply fnQ_told_ret); rfl)
    | ((with_reducible apply fnQ_ret_soft); rfl; rfl)
  rfl
theorem p_env_LeqSign {p q : PV} {e f : Option (List S8)} (h : RepE pi s8 p e) (k : RepE pi s8 q f) : Pure Go.Proofs.Tryz.prog gl 25 [p, q] (.bool (eLeq z8 S8.leq e f)) := by
  obtain ⟨on, l, rfl, rfl, hl⟩ := h
  obtain ⟨on', l', rfl, rfl, hl'⟩ := k
  refine Pure.fn hmix b25 ?_
  repeat' first
    | with_reducible refine tr_seq ?_
    | ((with_reducible refine tr_region_f ?_ ?_); kernel_rfl)
    | ((with_reducible refine tr_region_t ?_ ?_ ?_); kernel_rfl; kernel_rfl)
    | with_reducible refine n_nil ?_
    | with_reducible refine seqQ_normal ?_
    | with_reducible refine seqQ_ret ?_
    | with_reducible refine blkQ_ret ?_
    | with_reducible refine tr_ret ?_
    | ((with_reducible apply n_val); rfl; rfl)
    | ((with_reducible apply n_new); rfl; (first | (simp only [hn0, hn1, hn2, hn3, hn4, hn5, List.length_cons, List.length_nil, Nat.reduceAdd, Nat.zero_add]; done) | (simp only [hn0, hn1, hn2, hn3, hn4, hn5, List.length_cons, List.length_nil, Nat.reduceAdd, Nat.zero_add]; rfl) | rfl); rfl)
    | ((with_reducible apply n_call (f := 46)); rfl; rfl; exact p_env_signs)
    | ((with_reducible apply n_call (f := 54)); rfl; rfl; exact p_envs_below _ _ _ _ (by omega) (by omega))
    | ((with_reducible apply fnQ_told_ret); rfl)
    | ((with_reducible apply fnQ_ret_soft); rfl; rfl)
  rfl
end
end Go.Vm
end
