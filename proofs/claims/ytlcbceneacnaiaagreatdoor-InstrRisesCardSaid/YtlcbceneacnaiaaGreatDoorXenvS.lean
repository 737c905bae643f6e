/- Laid. -/
import Derived.Test.YtlcbceneacnaiaaGreatDoorVmThree
import Derived.KernelRfl
import Derived.Test.YtlcbceneacnaiaaGreatDoorProg
import Derived.Test.YtlcbceneacnaiaaGreatDoorXenvD
import Derived.Test.YtlcbceneacnaiaaGreatDoorLAll
section
/- Code. -/
set_option maxRecDepth 100000
set_option linter.unusedSimpArgs false
set_option linter.unusedVariables false
namespace Go.Vm
open Go
def c46 : RFn := ⟨(.seq (.region (Nodes.flat none (.op (some 0) (.alloc (.agg [.nilf, .nilf])) 0
  .nil)) false)
 (.seq (.region (Nodes.flat none (.op (some 1) (.build [.nilf, .nilf] [(0, 1, (.c (.fn 99 []))), (1, 1, (.c (.fn 100 [])))]) 0
  (.op none (.store 2 (.t 0) (.t 1)) 0
  .nil))) false)
 .ret)),
 [.cell (some 2) 0]⟩
theorem b46 : fnOf Go.Proofs.Tryz.prog (owOf []) 46 = some c46 := by kernel_rfl
def c47 : RFn := ⟨(.seq (.region (Nodes.flat none (.op (some 3) (.box (.t 0)) 0
  (.op (some 4) (.box (.t 1)) 0
  (.op (some 5) (.box (.t 2)) 0
  (.op (some 6) (.alloc (.agg [(.bool false), (.lit [])])) 0
  .nil))))) false)
 (.seq (.seq (.region (Nodes.flat none (.op (some 9) (.fieldAddr 0 (.t 4)) 0
  (.op (some 10) (.load none (.t 9)) 0
  (.op (some 11) (.un .not (.t 10)) 0
  .nil)))) false)
 (.cond (.t 11)
 (.region (Nodes.flat none (.op (some 12) (.load (some 2) (.t 5)) 0
  (.op (some 13) (.load (some 2) (.t 4)) 0
  (.op none (.store 2 (.t 4) (.t 12)) 0
  (.op none (.store 2 (.t 5) (.t 13)) 0
  .nil))))) false)
 .skip))
 (.seq (.seq (.region (Nodes.flat none (.op (some 14) (.fieldAddr 0 (.t 5)) 0
  (.op (some 15) (.load none (.t 14)) 0
  (.op (some 16) (.un .not (.t 15)) 0
  .nil)))) false)
 (.cond (.t 16)
 (.seq (.region (Nodes.flat none (.op (some 17) (.load (some 2) (.t 3)) 0
  (.op (some 18) (.load (some 2) (.t 4)) 0
  (.op (some 19) (.call 101 [(.t 17), (.t 18), (.c (.int .i64 0))]) 0
  (.op none (.store 2 (.t 6) (.t 19)) 0
  .nil))))) false)
 .ret)
 .skip))
 (.seq (.region (Nodes.flat none (.op (some 20) (.load (some 2) (.t 3)) 0
  (.op (some 21) (.load (some 2) (.t 4)) 0
  (.op (some 22) (.fieldAddr 1 (.t 5)) 0
  (.op (some 23) (.load none (.t 22)) 0
  (.op (some 24) (.len false (.t 23)) 0
  (.op (some 25) (.call 101 [(.t 20), (.t 21), (.t 24)]) 0
  (.op (some 7) (.alloc (.agg [(.bool false), (.lit [])])) 0
  (.op none (.store 2 (.t 7) (.t 25)) 0
  .nil))))))))) false)
 (.seq (.seq (.region (Nodes.flat none (.op (some 26) (.fieldAddr 1 (.t 7)) 0
  (.op (some 27) (.load none (.t 26)) 0
  (.op (some 28) (.len false (.t 27)) 0
  (.op (some 29) (.move (.c (.int .i64 0))) 0
  .nil))))) false)
 (.block 0 (.loop (.seq (.region (Nodes.flat none (.op (some 30) (.bin .lss (.t 29) (.t 28)) 0
  .nil)) false)
 (.seq (.cond (.t 30)
 .skip
 (.exit 0))
 (.seq (.block 1 (.seq (.region (Nodes.flat none (.op (some 31) (.move (.t 29)) 0
  (.op (some 8) (.move (.t 31)) 0
  .nil))) false)
 (.region (Nodes.flat none (.op (some 32) (.fieldAddr 1 (.t 7)) 0
  (.op (some 33) (.load none (.t 32)) 1
  (.op (some 34) (.move (.t 8)) 0
  (.op (some 35) (.fieldAddr 0 (.t 3)) 0
  (.op (some 36) (.load none (.t 35)) 8
  (.op (some 37) (.fieldAddr 1 (.t 7)) 0
  (.op (some 38) (.load none (.t 37)) 32
  (.op (some 39) (.move (.t 8)) 0
  (.op (some 40) (.idxAddr 1 (.t 38) (.t 39)) 224
  (.op (some 41) (.load none (.t 40)) 480
  (.op (some 42) (.load (some 2) (.t 3)) 0
  (.op (some 43) (.load (some 2) (.t 5)) 0
  (.op (some 44) (.move (.t 8)) 0
  (.op (some 45) (.call 102 [(.t 42), (.t 43), (.t 44)]) 7168
  (.op (some 46) (.callv (.t 36) [(.t 41), (.t 45)]) 16376
  (.op (some 47) (.idxAddr 1 (.t 33) (.t 34)) 32767
  (.op none (.store 1 (.t 47) (.t 46)) 65535
  .nil)))))))))))))))))) true)))
 (.region (Nodes.flat none (.op (some 48) (.bin .add (.t 29) (.c (.int .i64 1))) 0
  (.op (some 29) (.move (.t 48)) 0
  .nil))) false)))))))
 (.seq (.region (Nodes.flat none (.op (some 49) (.load (some 2) (.t 7)) 0
  (.op none (.store 2 (.t 6) (.t 49)) 0
  .nil))) false)
 .ret)))))),
 [.cell (some 2) 6]⟩
theorem b47 : fnOf Go.Proofs.Tryz.prog (owOf []) 47 = some c47 := by kernel_rfl
def c54 : RFn := ⟨(.seq (.region (Nodes.flat none (.op (some 3) (.box (.t 0)) 0
  (.op (some 4) (.box (.t 1)) 0
  (.op (some 5) (.box (.t 2)) 0
  (.op (some 6) (.move (.c (.bool false))) 0
  .nil))))) false)
 (.seq (.seq (.region (Nodes.flat none (.op (some 8) (.fieldAddr 0 (.t 4)) 0
  (.op (some 9) (.load none (.t 8)) 0
  (.op (some 10) (.un .not (.t 9)) 0
  (.op (some 11) (.move (.t 10)) 0
  (.grd 11 false
  (.op (some 12) (.fieldAddr 0 (.t 5)) 0
  (.op (some 13) (.load none (.t 12)) 0
  (.op (some 14) (.un .not (.t 13)) 0
  .nil)))
  (.op (some 15) (.pick (.t 11) (.c (.bool true)) (.t 14)) 0
  .nil))))))) false)
 (.cond (.t 15)
 (.seq (.region (Nodes.flat none (.op (some 16) (.fieldAddr 0 (.t 4)) 0
  (.op (some 17) (.load none (.t 16)) 0
  (.op (some 18) (.un .not (.t 17)) 0
  (.op (some 6) (.move (.t 18)) 0
  .nil))))) false)
 .ret)
 .skip))
 (.seq (.seq (.region (Nodes.flat none (.op (some 19) (.fieldAddr 1 (.t 4)) 0
  (.op (some 20) (.load none (.t 19)) 0
  (.op (some 21) (.len false (.t 20)) 0
  (.op (some 22) (.fieldAddr 1 (.t 5)) 0
  (.op (some 23) (.load none (.t 22)) 0
  (.op (some 24) (.len false (.t 23)) 0
  (.op (some 25) (.mm true (.t 21) [(.t 24)]) 0
  (.op (some 26) (.move (.c (.int .i64 0))) 0
  .nil))))))))) false)
 (.block 0 (.loop (.seq (.region (Nodes.flat none (.op (some 27) (.bin .lss (.t 26) (.t 25)) 0
  .nil)) false)
 (.seq (.cond (.t 27)
 .skip
 (.exit 0))
 (.seq (.block 1 (.seq (.region (Nodes.flat none (.op (some 28) (.move (.t 26)) 0
  (.op (some 7) (.move (.t 28)) 0
  .nil))) false)
 (.seq (.region (Nodes.flat none (.op (some 29) (.fieldAddr 1 (.t 3)) 0
  (.op (some 30) (.load none (.t 29)) 1
  (.op (some 31) (.load (some 2) (.t 3)) 0
  (.op (some 32) (.load (some 2) (.t 4)) 0
  (.op (some 33) (.move (.t 7)) 0
  (.op (some 34) (.call 102 [(.t 31), (.t 32), (.t 33)]) 28
  (.op (some 35) (.load (some 2) (.t 3)) 0
  (.op (some 36) (.load (some 2) (.t 5)) 0
  (.op (some 37) (.move (.t 7)) 0
  (.op (some 38) (.call 102 [(.t 35), (.t 36), (.t 37)]) 508
  (.op (some 39) (.callv (.t 30) [(.t 34), (.t 38)]) 1023
  (.op (some 40) (.un .not (.t 39)) 2047
  .nil))))))))))))) true)
 (.cond (.t 40)
 (.seq (.region (Nodes.flat none (.op (some 6) (.move (.c (.bool false))) 0
  .nil)) false)
 .ret)
 .skip))))
 (.region (Nodes.flat none (.op (some 41) (.bin .add (.t 26) (.c (.int .i64 1))) 0
  (.op (some 26) (.move (.t 41)) 0
  .nil))) false)))))))
 (.seq (.region (Nodes.flat none (.op (some 6) (.move (.c (.bool true))) 0
  .nil)) false)
 .ret)))),
 [.tmp 6]⟩
theorem b54 : fnOf Go.Proofs.Tryz.prog (owOf []) 54 = some c54 := by kernel_rfl
def c78 : RFn := ⟨(.seq (.region (Nodes.flat none (.op (some 4) (.box (.t 0)) 0
  (.op (some 5) (.box (.t 1)) 0
  (.op (some 8) (.alloc (.agg [(.bool false), (.lit [])])) 0
  .nil)))) false)
 (.seq (.region (Nodes.flat none (.op (some 10) (.load (some 2) (.t 4)) 0
  (.op (some 11) (.load (some 2) (.t 5)) 0
  (.op (some 12) (.call 101 [(.t 10), (.t 11), (.c (.int .i64 0))]) 0
  (.op (some 9) (.alloc (.agg [(.bool false), (.lit [])])) 0
  (.op none (.store 2 (.t 9) (.t 12)) 0
  .nil)))))) false)
 (.seq (.seq (.region (Nodes.flat none (.op (some 13) (.move (.t 2)) 0
  (.op (some 14) (.bin .geq (.t 13) (.c (.int .i64 0))) 0
  (.op (some 15) (.move (.t 14)) 0
  (.grd 15 true
  (.op (some 16) (.move (.t 2)) 0
  (.op (some 17) (.fieldAddr 1 (.t 9)) 0
  (.op (some 18) (.load none (.t 17)) 0
  (.op (some 19) (.len false (.t 18)) 0
  (.op (some 20) (.bin .lss (.t 16) (.t 19)) 0
  .nil)))))
  (.op (some 21) (.pick (.t 15) (.t 20) (.c (.bool false))) 0
  .nil)))))) false)
 (.cond (.t 21)
 (.region (Nodes.flat none (.op (some 22) (.fieldAddr 1 (.t 9)) 0
  (.op (some 23) (.load none (.t 22)) 1
  (.op (some 24) (.move (.t 2)) 0
  (.op (some 25) (.load (some 2) (.t 4)) 0
  (.op (some 26) (.move (.t 3)) 0
  (.op (some 27) (.call 126 [(.t 25), (.t 26)]) 24
  (.op (some 28) (.idxAddr 1 (.t 23) (.t 24)) 63
  (.op none (.store 1 (.t 28) (.t 27)) 127
  .nil))))))))) true)
 .skip))
 (.seq (.region (Nodes.flat none (.op (some 29) (.load (some 2) (.t 9)) 0
  (.op none (.store 2 (.t 8) (.t 29)) 0
  .nil))) false)
 .ret)))),
 [.cell (some 2) 8]⟩
theorem b78 : fnOf Go.Proofs.Tryz.prog (owOf []) 78 = some c78 := by kernel_rfl
def c101 : RFn := ⟨(.seq (.region (Nodes.flat none (.op (some 3) (.box (.t 0)) 0
  (.op (some 4) (.box (.t 1)) 0
  (.op (some 6) (.alloc (.agg [(.bool false), (.lit [])])) 0
  .nil)))) false)
 (.seq (.seq (.region (Nodes.flat none (.op (some 9) (.fieldAddr 0 (.t 4)) 0
  (.op (some 10) (.load none (.t 9)) 0
  (.op (some 11) (.un .not (.t 10)) 0
  .nil)))) false)
 (.cond (.t 11)
 (.seq (.region (Nodes.flat none (.op (some 12) (.build [(.bool false), (.lit [])] []) 0
  (.op none (.store 2 (.t 6) (.t 12)) 0
  .nil))) false)
 .ret)
 .skip))
 (.seq (.region (Nodes.flat none (.op (some 13) (.move (.t 2)) 0
  (.op (some 14) (.fieldAddr 1 (.t 4)) 0
  (.op (some 15) (.load none (.t 14)) 0
  (.op (some 16) (.len false (.t 15)) 0
  (.op (some 17) (.mm true (.t 13) [(.t 16)]) 0
  (.op (some 18) (.mkslice 1 (.int .i64 0) (.t 17)) 0
  (.op (some 19) (.build [(.bool false), (.lit [])] [(0, 1, (.c (.bool true))), (1, 1, (.t 18))]) 0
  (.op (some 7) (.alloc (.agg [(.bool false), (.lit [])])) 0
  (.op none (.store 2 (.t 7) (.t 19)) 0
  .nil)))))))))) false)
 (.seq (.seq (.region (Nodes.flat none (.op (some 20) (.fieldAddr 1 (.t 7)) 0
  (.op (some 21) (.load none (.t 20)) 0
  (.op (some 22) (.len false (.t 21)) 0
  (.op (some 23) (.move (.c (.int .i64 0))) 0
  .nil))))) false)
 (.block 0 (.loop (.seq (.region (Nodes.flat none (.op (some 24) (.bin .lss (.t 23) (.t 22)) 0
  .nil)) false)
 (.seq (.cond (.t 24)
 .skip
 (.exit 0))
 (.seq (.block 1 (.seq (.region (Nodes.flat none (.op (some 25) (.move (.t 23)) 0
  (.op (some 8) (.move (.t 25)) 0
  .nil))) false)
 (.region (Nodes.flat none (.op (some 26) (.fieldAddr 1 (.t 7)) 0
  (.op (some 27) (.load none (.t 26)) 1
  (.op (some 28) (.move (.t 8)) 0
  (.op (some 29) (.load (some 2) (.t 3)) 0
  (.op (some 30) (.load (some 2) (.t 4)) 0
  (.op (some 31) (.move (.t 8)) 0
  (.op (some 32) (.call 102 [(.t 29), (.t 30), (.t 31)]) 56
  (.op (some 33) (.idxAddr 1 (.t 27) (.t 28)) 127
  (.op none (.store 1 (.t 33) (.t 32)) 255
  .nil)))))))))) true)))
 (.region (Nodes.flat none (.op (some 34) (.bin .add (.t 23) (.c (.int .i64 1))) 0
  (.op (some 23) (.move (.t 34)) 0
  .nil))) false)))))))
 (.seq (.region (Nodes.flat none (.op (some 35) (.load (some 2) (.t 7)) 0
  (.op none (.store 2 (.t 6) (.t 35)) 0
  .nil))) false)
 .ret))))),
 [.cell (some 2) 6]⟩
theorem b101 : fnOf Go.Proofs.Tryz.prog (owOf []) 101 = some c101 := by kernel_rfl
def c102 : RFn := ⟨(.seq (.region (Nodes.flat none (.op (some 3) (.box (.t 0)) 0
  (.op (some 4) (.box (.t 1)) 0
  (.op (some 6) (.move (.c (.int .i64 0))) 0
  .nil)))) false)
 (.seq (.region (Nodes.flat none (.op (some 7) (.move (.c (.int .i64 0))) 0
  .nil)) false)
 (.seq (.seq (.region (Nodes.flat none (.op (some 8) (.fieldAddr 0 (.t 4)) 0
  (.op (some 9) (.load none (.t 8)) 0
  (.op (some 10) (.un .not (.t 9)) 0
  (.op (some 11) (.move (.t 10)) 0
  (.grd 11 false
  (.op (some 12) (.move (.t 2)) 0
  (.op (some 13) (.bin .lss (.t 12) (.c (.int .i64 0))) 0
  .nil))
  (.op (some 14) (.pick (.t 11) (.c (.bool true)) (.t 13)) 0
  (.op (some 15) (.move (.t 14)) 0
  (.grd 15 false
  (.op (some 16) (.move (.t 2)) 0
  (.op (some 17) (.fieldAddr 1 (.t 4)) 0
  (.op (some 18) (.load none (.t 17)) 0
  (.op (some 19) (.len false (.t 18)) 0
  (.op (some 20) (.bin .geq (.t 16) (.t 19)) 0
  .nil)))))
  (.op (some 21) (.pick (.t 15) (.c (.bool true)) (.t 20)) 0
  .nil)))))))))) false)
 (.cond (.t 21)
 (.seq (.region (Nodes.flat none (.op (some 22) (.move (.t 7)) 0
  (.op (some 6) (.move (.t 22)) 0
  .nil))) false)
 .ret)
 .skip))
 (.seq (.region (Nodes.flat none (.op (some 23) (.load (some 2) (.t 3)) 0
  (.op (some 24) (.fieldAddr 1 (.t 4)) 0
  (.op (some 25) (.load none (.t 24)) 2
  (.op (some 26) (.move (.t 2)) 0
  (.op (some 27) (.idxAddr 1 (.t 25) (.t 26)) 14
  (.op (some 28) (.load none (.t 27)) 30
  (.op (some 29) (.call 126 [(.t 23), (.t 28)]) 63
  (.op (some 6) (.move (.t 29)) 127
  .nil))))))))) true)
 .ret)))),
 [.tmp 6]⟩
theorem b102 : fnOf Go.Proofs.Tryz.prog (owOf []) 102 = some c102 := by kernel_rfl
def c126 : RFn := ⟨(.seq (.region (Nodes.flat none (.op (some 2) (.box (.t 0)) 0
  (.op (some 4) (.move (.c (.int .i64 0))) 0
  .nil))) false)
 (.seq (.region (Nodes.flat none (.op (some 5) (.move (.c (.int .i64 0))) 0
  .nil)) false)
 (.seq (.region (Nodes.flat none (.op (some 6) (.fieldAddr 0 (.t 2)) 0
  (.op (some 7) (.load none (.t 6)) 0
  (.op (some 8) (.move (.t 1)) 0
  (.op (some 9) (.move (.t 5)) 0
  (.op (some 10) (.callv (.t 7) [(.t 8), (.t 9)]) 0
  (.op (some 4) (.move (.t 10)) 0
  .nil))))))) false)
 .ret))),
 [.tmp 4]⟩
theorem b126 : fnOf Go.Proofs.Tryz.prog (owOf []) 126 = some c126 := by kernel_rfl
end Go.Vm
end
section
/- Walks. -/
set_option maxRecDepth 100000
set_option linter.unusedSimpArgs false
set_option linter.unusedVariables false
namespace Go.Vm
open Go
section
variable {gl : Nat → Option PV}
set_option maxHeartbeats 4000000
theorem p_env_signs : Pure Go.Proofs.Tryz.prog gl 46 [] (.agg [.fn 99 [], .fn 100 []]) := by
  refine Pure.fn hmix b46 ?_
  repeat' first
    | with_reducible refine tr_seq ?_
    | ((with_reducible refine tr_region_f ?_ ?_); kernel_rfl)
    | with_reducible refine n_nil ?_
    | with_reducible refine seqQ_normal ?_
    | with_reducible refine seqQ_ret ?_
    | with_reducible refine blkQ_ret ?_
    | with_reducible refine tr_ret ?_
    | ((with_reducible apply n_val); rfl; rfl)
    | ((with_reducible apply n_new); rfl; (first | (simp only [hn0, hn1, hn2, hn3, hn4, hn5, List.length_cons, List.length_nil, Nat.reduceAdd, Nat.zero_add]; done) | (simp only [hn0, hn1, hn2, hn3, hn4, hn5, List.length_cons, List.length_nil, Nat.reduceAdd, Nat.zero_add]; rfl) | rfl); rfl)
    | ((with_reducible apply n_store); rfl; rfl; rfl; rfl; rfl)
    | ((with_reducible apply fnQ_told_ret); rfl)
    | ((with_reducible apply fnQ_ret_soft); rfl; rfl)
  rfl
theorem p_sign_join0 (c : I64) : Pure Go.Proofs.Tryz.prog gl 99 [pi c, .int .i64 0] (ps (s8 c)) := by
  have := p_sign_Join (gl := gl) c.1 0 c.2 zi.2
  rwa [sJoin_0] at this
theorem p_envs_sane (c : I64) : Pure Go.Proofs.Tryz.prog gl 126 [(.agg [.fn 99 [], .fn 100 []]), pi c] (ps (s8 c)) := by
  refine Pure.fn hmix b126 ?_
  repeat' first
    | with_reducible refine tr_seq ?_
    | ((with_reducible refine tr_region_f ?_ ?_); kernel_rfl)
    | with_reducible refine n_nil ?_
    | with_reducible refine seqQ_normal ?_
    | with_reducible refine seqQ_ret ?_
    | with_reducible refine blkQ_ret ?_
    | with_reducible refine tr_ret ?_
    | ((with_reducible apply n_callv); rfl; rfl; rfl; exact p_sign_join0 ..)
    | ((with_reducible apply n_val); rfl; rfl)
    | ((with_reducible apply n_new); rfl; (first | (simp only [hn0, hn1, hn2, hn3, hn4, hn5, List.length_cons, List.length_nil, Nat.reduceAdd, Nat.zero_add]; done) | (simp only [hn0, hn1, hn2, hn3, hn4, hn5, List.length_cons, List.length_nil, Nat.reduceAdd, Nat.zero_add]; rfl) | rfl); rfl)
    | ((with_reducible apply fnQ_told_ret); rfl)
    | ((with_reducible apply fnQ_ret_soft); rfl; rfl)
  rfl
theorem p_envs_get (on : Bool) (l : List I64) (i : Int) : Pure Go.Proofs.Tryz.prog gl 102 [(.agg [.fn 99 [], .fn 100 []]), eIn pi on l, .int .i64 i] (ps (eGet z8 (eAbs s8 on l) i)) := by
  rw [eAbs_get (g := s8) (a := zi) s8_zero]
  refine Pure.fn hmix b102 ?_
  repeat' first
    | with_reducible refine tr_seq ?_
    | ((with_reducible refine tr_region_f ?_ ?_); kernel_rfl)
    | ((with_reducible refine tr_region_t ?_ ?_ ?_); kernel_rfl; kernel_rfl)
    | with_reducible refine n_nil ?_
    | exact ⟨rfl, rfl⟩
    | with_reducible refine seqQ_normal ?_
    | with_reducible refine seqQ_ret ?_
    | with_reducible refine blkQ_ret ?_
    | with_reducible refine tr_skip ?_
    | with_reducible refine tr_ret ?_
    | ((with_reducible apply tr_cond_e); rfl)
    | with_reducible refine condT_t ?_
    | with_reducible refine condT_f ?_
    | ((with_reducible apply n_and); rfl; rfl; intro h)
    | ((with_reducible apply n_or); rfl; rfl; intro h)
    | (first | ((with_reducible apply n_bin); rfl; rfl; focus ((with_reducible (first | apply b_add | apply b_sub)) <;> first | omega | (simp only [decide_eq_true_eq, decide_eq_false_iff_not, Bool.or_eq_false_iff, Bool.not_eq_true', Bool.not_eq_false', Bool.not_true, Bool.not_false, ints_length, List.length_map, tab_length] at *; omega))) | ((with_reducible apply n_max); rfl; rfl) | ((with_reducible apply n_min); rfl; rfl))
    | ((with_reducible apply n_idx_vals zi); rfl; rfl; exact (fun _ => rfl); (first | omega | (simp only [decide_eq_true_eq, decide_eq_false_iff_not, Bool.or_eq_false_iff, Bool.not_eq_true', Bool.not_eq_false', Bool.not_true, Bool.not_false, ints_length, List.length_map, tab_length] at *; omega)))
    | ((with_reducible apply n_val); rfl; rfl)
    | ((with_reducible apply n_new); rfl; (first | (simp only [hn0, hn1, hn2, hn3, hn4, hn5, List.length_cons, List.length_nil, Nat.reduceAdd, Nat.zero_add]; done) | (simp only [hn0, hn1, hn2, hn3, hn4, hn5, List.length_cons, List.length_nil, Nat.reduceAdd, Nat.zero_add]; rfl) | rfl); rfl)
    | ((with_reducible apply n_call (f := 126)); rfl; rfl; exact p_envs_sane ..)
    | (with_reducible refine condT_split (fun h => ?_) (fun h => ?_))
    | ((with_reducible apply fnQ_told_ret); rfl)
    | ((with_reducible apply fnQ_ret_soft); rfl; rfl)
  all_goals (simp only [Bool.or_eq_true, Bool.not_eq_true', decide_eq_true_eq, Bool.or_eq_false_iff, Bool.not_eq_false', decide_eq_false_iff_not, List.length_map] at *)
  · rw [if_neg (by rintro ⟨h1, h2, h3⟩; rcases h with (h | h) | h; (simp [h] at h1); omega; omega)]; rfl
  · rw [if_pos (by refine ⟨h.1.1, ?_, ?_⟩ <;> omega)]
    all_goals rfl
theorem p_sign_JoinV (v w : S8) : Pure Go.Proofs.Tryz.prog gl 99 [ps v, ps w] (ps (v.join w)) := p_sign_Join v.1 w.1 v.i64 w.i64
theorem p_sign_LeqV (v w : S8) : Pure Go.Proofs.Tryz.prog gl 100 [ps v, ps w] (.bool (v.leq w)) := p_sign_Leq v.1 w.1 v.i64 w.i64
theorem eGetS_on {l : List I64} (k : Nat) : eGet z8 (eAbs s8 true l) (k : Int) = (l.map s8).getD k z8 := by simp [eGet, eAbs, eV]
theorem f_envs_own (l : List I64) (n : Int) (N : Nat) (hN : max n (l.length : Nat) = (N : Nat)) (hb : N ≤ 1000) (R : List S8) (hR : R = tab N fun k => (l.map s8).getD k z8) : Fresh Go.Proofs.Tryz.prog gl 101 [(.agg [.fn 99 [], .fn 100 []]), eIn pi true l, .int .i64 n] (.agg [.bool true, .ref 3 0 0 N]) (Hp.ofL [none, none, none, some ⟨0, 1, R.map ps⟩]) := by
  have hRl : R.length = N := by rw [hR]; exact tab_length
  have hO : R.length = (List.replicate N z8).length := by rw [hRl]; simp
  have hg : ∀ k : Nat, k < N → ps (eGet z8 (eAbs s8 true l) (k : Int)) = ps (R.getD k z8) := fun k hk => by rw [eGetS_on, hR, tab_getD hk]
  refine Fresh.fnL hmix b101 ?_
  repeat' first
    | with_reducible refine tr_seq ?_
    | ((with_reducible refine tr_region_f ?_ ?_); kernel_rfl)
    | ((with_reducible refine tr_region_t ?_ ?_ ?_); kernel_rfl; kernel_rfl)
    | with_reducible refine n_nil ?_
    | with_reducible refine seqQ_normal ?_
    | with_reducible refine seqQ_exit ?_
    | with_reducible refine seqQ_ret ?_
    | with_reducible refine blkQ_normal ?_
    | with_reducible refine blkQ_exit ?_
    | with_reducible refine blkQ_ret ?_
    | ((with_reducible refine blkQ_exit_ne ?_ ?_); rfl)
    | with_reducible refine tr_block ?_
    | with_reducible refine tr_skip ?_
    | with_reducible refine tr_exit ?_
    | with_reducible refine tr_ret ?_
    | ((with_reducible apply tr_cond_e); rfl)
    | with_reducible refine condT_t ?_
    | with_reducible refine condT_f ?_
    | ((with_reducible refine condT_T ?_ ?_); decide +kernel)
    | ((with_reducible refine condT_F ?_ ?_); decide +kernel)
    | ((with_reducible apply n_andF); rfl; rfl; decide +kernel)
    | ((with_reducible apply n_orT); rfl; rfl; decide +kernel)
    | with_reducible refine loopV_exit ?_
    | with_reducible refine loopV_ret ?_
    | with_reducible refine unrQ_normal ?_
    | with_reducible refine unrQ_exit ?_
    | with_reducible refine unrQ_ret ?_
    | ((with_reducible apply n_max_to (c := (N : Int))); rfl; rfl; (rw [List.length_map]; exact hN))
    | ((with_reducible apply n_mk_vals (f := ps) z8); rfl; rfl; rfl; rfl; omega)
    | (first | ((with_reducible apply n_bin); rfl; rfl; focus ((with_reducible (first | apply b_add | apply b_sub)) <;> first | omega | (simp only [decide_eq_true_eq, decide_eq_false_iff_not, Bool.or_eq_false_iff, Bool.not_eq_true', Bool.not_eq_false', Bool.not_true, Bool.not_false, ints_length, List.length_map, tab_length] at *; omega))) | ((with_reducible apply n_max); rfl; rfl) | ((with_reducible apply n_min); rfl; rfl))
    | ((with_reducible apply n_idx_own); rfl; rfl; rfl; (first | omega | (simp only [decide_eq_true_eq, decide_eq_false_iff_not, Bool.or_eq_false_iff, Bool.not_eq_true', Bool.not_eq_false', Bool.not_true, Bool.not_false, ints_length, List.length_map, tab_length] at *; omega)))
    | ((with_reducible apply n_store_vals (f := ps) (R.getD k z8)); rfl; rfl; rfl; exact hg _ (by first | omega | (simp only [decide_eq_true_eq, decide_eq_false_iff_not, Bool.or_eq_false_iff, Bool.not_eq_true', Bool.not_eq_false', Bool.not_true, Bool.not_false, ints_length, List.length_map, tab_length] at *; omega)); exact (fun _ => rfl); (rw [mixL_length hO, List.length_replicate]; first | omega | (simp only [decide_eq_true_eq, decide_eq_false_iff_not, Bool.or_eq_false_iff, Bool.not_eq_true', Bool.not_eq_false', Bool.not_true, Bool.not_false, ints_length, List.length_map, tab_length] at *; omega)))
    | (refine tr_loop_v (α := Nat) 5 (fun | k => [(23, some (.int .i64 (k : Int))), (24, none), (25, none), (8, none), (26, none), (27, none), (28, none), (29, none), (30, none), (31, none), (32, none), (33, none), (34, none)]) (fun | k => [some ⟨0, 2, [(.agg [.fn 99 [], .fn 100 []])]⟩, some ⟨0, 2, [eIn pi true l]⟩, some ⟨0, 2, [.agg [.bool false, .lit []]]⟩, some ⟨0, 1, (mixL R (List.replicate N z8) k).map ps⟩, some ⟨0, 2, [.agg [.bool true, .ref 3 0 0 N]]⟩]) (fun | k => k ≤ N) (fun | k => N - k) (0) (ks := [23, 24, 25, 8, 26, 27, 28, 29, 30, 31, 32, 33, 34]) (fun _ => rfl) (fun _ => rfl) rfl (by omega) ?_ ⟨⟨_, rfl, rfl⟩, trivial⟩ ⟨⟨_, rfl, rfl, rfl, (by first | exact fzP_vals (fun _ => rfl) (mixL_set hO (by first | omega | (simp only [decide_eq_true_eq, decide_eq_false_iff_not, Bool.or_eq_false_iff, Bool.not_eq_true', Bool.not_eq_false', Bool.not_true, Bool.not_false, ints_length, List.length_map, tab_length] at *; omega)) z8) |  rfl | exact fzP_pure (ints_pure _) | exact fzP_pure (u64s_pure _) | exact fzP_pure (by assumption) | exact fzP_pure (by first | (simp [pureE, pure1, ints]; done) | (simp_all [pe_int, pe_bool, pe_str, pe_sl, pe_agg, p1_int, p1_bool, p1_str, p1_sl]; done)))⟩, ⟨_, rfl, rfl, rfl, (by first | exact fzP_vals (fun _ => rfl) (mixL_set hO (by first | omega | (simp only [decide_eq_true_eq, decide_eq_false_iff_not, Bool.or_eq_false_iff, Bool.not_eq_true', Bool.not_eq_false', Bool.not_true, Bool.not_false, ints_length, List.length_map, tab_length] at *; omega)) z8) |  rfl | exact fzP_pure (ints_pure _) | exact fzP_pure (u64s_pure _) | exact fzP_pure (by assumption) | exact fzP_pure (by first | (simp [pureE, pure1, ints]; done) | (simp_all [pe_int, pe_bool, pe_str, pe_sl, pe_agg, p1_int, p1_bool, p1_str, p1_sl]; done)))⟩, ⟨_, rfl, rfl, rfl, (by first | exact fzP_vals (fun _ => rfl) (mixL_set hO (by first | omega | (simp only [decide_eq_true_eq, decide_eq_false_iff_not, Bool.or_eq_false_iff, Bool.not_eq_true', Bool.not_eq_false', Bool.not_true, Bool.not_false, ints_length, List.length_map, tab_length] at *; omega)) z8) |  rfl | exact fzP_pure (ints_pure _) | exact fzP_pure (u64s_pure _) | exact fzP_pure (by assumption) | exact fzP_pure (by first | (simp [pureE, pure1, ints]; done) | (simp_all [pe_int, pe_bool, pe_str, pe_sl, pe_agg, p1_int, p1_bool, p1_str, p1_sl]; done)))⟩, ⟨_, rfl, rfl, rfl, (by first | exact fzP_vals (fun _ => rfl) (mixL_set hO (by first | omega | (simp only [decide_eq_true_eq, decide_eq_false_iff_not, Bool.or_eq_false_iff, Bool.not_eq_true', Bool.not_eq_false', Bool.not_true, Bool.not_false, ints_length, List.length_map, tab_length] at *; omega)) z8) |  rfl | exact fzP_pure (ints_pure _) | exact fzP_pure (u64s_pure _) | exact fzP_pure (by assumption) | exact fzP_pure (by first | (simp [pureE, pure1, ints]; done) | (simp_all [pe_int, pe_bool, pe_str, pe_sl, pe_agg, p1_int, p1_bool, p1_str, p1_sl]; done)))⟩, ⟨_, rfl, rfl, rfl, (by first | exact fzP_vals (fun _ => rfl) (mixL_set hO (by first | omega | (simp only [decide_eq_true_eq, decide_eq_false_iff_not, Bool.or_eq_false_iff, Bool.not_eq_true', Bool.not_eq_false', Bool.not_true, Bool.not_false, ints_length, List.length_map, tab_length] at *; omega)) z8) |  rfl | exact fzP_pure (ints_pure _) | exact fzP_pure (u64s_pure _) | exact fzP_pure (by assumption) | exact fzP_pure (by first | (simp [pureE, pure1, ints]; done) | (simp_all [pe_int, pe_bool, pe_str, pe_sl, pe_agg, p1_int, p1_bool, p1_str, p1_sl]; done)))⟩, trivial⟩ ?_; rotate_left; rintro k hx; try dsimp only at hx)
    | ((first | (refine loopV_normal ((k + 1)) ?_ ⟨⟨_, rfl, rfl⟩, trivial⟩ ⟨⟨_, rfl, rfl, rfl, (by first | exact fzP_vals (fun _ => rfl) (mixL_set hO (by first | omega | (simp only [decide_eq_true_eq, decide_eq_false_iff_not, Bool.or_eq_false_iff, Bool.not_eq_true', Bool.not_eq_false', Bool.not_true, Bool.not_false, ints_length, List.length_map, tab_length] at *; omega)) z8) |  rfl | exact fzP_pure (ints_pure _) | exact fzP_pure (u64s_pure _) | exact fzP_pure (by assumption) | exact fzP_pure (by first | (simp [pureE, pure1, ints]; done) | (simp_all [pe_int, pe_bool, pe_str, pe_sl, pe_agg, p1_int, p1_bool, p1_str, p1_sl]; done)))⟩, ⟨_, rfl, rfl, rfl, (by first | exact fzP_vals (fun _ => rfl) (mixL_set hO (by first | omega | (simp only [decide_eq_true_eq, decide_eq_false_iff_not, Bool.or_eq_false_iff, Bool.not_eq_true', Bool.not_eq_false', Bool.not_true, Bool.not_false, ints_length, List.length_map, tab_length] at *; omega)) z8) |  rfl | exact fzP_pure (ints_pure _) | exact fzP_pure (u64s_pure _) | exact fzP_pure (by assumption) | exact fzP_pure (by first | (simp [pureE, pure1, ints]; done) | (simp_all [pe_int, pe_bool, pe_str, pe_sl, pe_agg, p1_int, p1_bool, p1_str, p1_sl]; done)))⟩, ⟨_, rfl, rfl, rfl, (by first | exact fzP_vals (fun _ => rfl) (mixL_set hO (by first | omega | (simp only [decide_eq_true_eq, decide_eq_false_iff_not, Bool.or_eq_false_iff, Bool.not_eq_true', Bool.not_eq_false', Bool.not_true, Bool.not_false, ints_length, List.length_map, tab_length] at *; omega)) z8) |  rfl | exact fzP_pure (ints_pure _) | exact fzP_pure (u64s_pure _) | exact fzP_pure (by assumption) | exact fzP_pure (by first | (simp [pureE, pure1, ints]; done) | (simp_all [pe_int, pe_bool, pe_str, pe_sl, pe_agg, p1_int, p1_bool, p1_str, p1_sl]; done)))⟩, ⟨_, rfl, rfl, rfl, (by first | exact fzP_vals (fun _ => rfl) (mixL_set hO (by first | omega | (simp only [decide_eq_true_eq, decide_eq_false_iff_not, Bool.or_eq_false_iff, Bool.not_eq_true', Bool.not_eq_false', Bool.not_true, Bool.not_false, ints_length, List.length_map, tab_length] at *; omega)) z8) |  rfl | exact fzP_pure (ints_pure _) | exact fzP_pure (u64s_pure _) | exact fzP_pure (by assumption) | exact fzP_pure (by first | (simp [pureE, pure1, ints]; done) | (simp_all [pe_int, pe_bool, pe_str, pe_sl, pe_agg, p1_int, p1_bool, p1_str, p1_sl]; done)))⟩, ⟨_, rfl, rfl, rfl, (by first | exact fzP_vals (fun _ => rfl) (mixL_set hO (by first | omega | (simp only [decide_eq_true_eq, decide_eq_false_iff_not, Bool.or_eq_false_iff, Bool.not_eq_true', Bool.not_eq_false', Bool.not_true, Bool.not_false, ints_length, List.length_map, tab_length] at *; omega)) z8) |  rfl | exact fzP_pure (ints_pure _) | exact fzP_pure (u64s_pure _) | exact fzP_pure (by assumption) | exact fzP_pure (by first | (simp [pureE, pure1, ints]; done) | (simp_all [pe_int, pe_bool, pe_str, pe_sl, pe_agg, p1_int, p1_bool, p1_str, p1_sl]; done)))⟩, trivial⟩ ?_ ?_)); repeat (first | exact only_refl | refine only_put rfl ?_ | refine only_less rfl ?_ | refine only_ov rfl ?_))
    | ((with_reducible apply n_val); rfl; rfl)
    | ((with_reducible apply n_new); rfl; (first | (simp only [hn0, hn1, hn2, hn3, hn4, hn5, List.length_cons, List.length_nil, Nat.reduceAdd, Nat.zero_add]; done) | (simp only [hn0, hn1, hn2, hn3, hn4, hn5, List.length_cons, List.length_nil, Nat.reduceAdd, Nat.zero_add]; rfl) | rfl); rfl)
    | ((with_reducible apply n_store); rfl; rfl; rfl; rfl; rfl)
    | ((with_reducible apply n_call (f := 102)); rfl; rfl; exact p_envs_get ..)
    | (with_reducible refine condT_split (fun h => ?_) (fun h => ?_))
    | ((with_reducible apply fnQ_told_ret); rfl)
    | ((with_reducible apply fnQ_ret_soft); rfl; rfl)
  all_goals (try dsimp only at *)
  all_goals (try simp only [decide_eq_true_eq, decide_eq_false_iff_not] at *)
  · omega
  · omega
  · rfl
  · rw [mixL_full (by simp; omega) (by omega)]
    exact ⟨⟨_, rfl, rfl, rfl, fzP_vals (fun _ => rfl) rfl⟩, trivial⟩
  · omega
theorem p_envs_own_off (l : List I64) (n : Int) : Pure Go.Proofs.Tryz.prog gl 101 [(.agg [.fn 99 [], .fn 100 []]), eIn pi false l, .int .i64 n] (.agg [.bool false, .sl []]) := by
  refine Pure.fn hmix b101 ?_
  repeat' first
    | with_reducible refine tr_seq ?_
    | ((with_reducible refine tr_region_f ?_ ?_); kernel_rfl)
    | ((with_reducible refine tr_region_t ?_ ?_ ?_); kernel_rfl; kernel_rfl)
    | with_reducible refine n_nil ?_
    | with_reducible refine seqQ_normal ?_
    | with_reducible refine seqQ_exit ?_
    | with_reducible refine seqQ_ret ?_
    | with_reducible refine blkQ_normal ?_
    | with_reducible refine blkQ_exit ?_
    | with_reducible refine blkQ_ret ?_
    | ((with_reducible refine blkQ_exit_ne ?_ ?_); rfl)
    | with_reducible refine tr_block ?_
    | with_reducible refine tr_skip ?_
    | with_reducible refine tr_exit ?_
    | with_reducible refine tr_ret ?_
    | ((with_reducible apply tr_cond_e); rfl)
    | with_reducible refine condT_t ?_
    | with_reducible refine condT_f ?_
    | ((with_reducible refine condT_T ?_ ?_); decide +kernel)
    | ((with_reducible refine condT_F ?_ ?_); decide +kernel)
    | ((with_reducible apply n_andF); rfl; rfl; decide +kernel)
    | ((with_reducible apply n_orT); rfl; rfl; decide +kernel)
    | with_reducible refine loopV_exit ?_
    | with_reducible refine loopV_ret ?_
    | with_reducible refine unrQ_normal ?_
    | with_reducible refine unrQ_exit ?_
    | with_reducible refine unrQ_ret ?_
    | ((with_reducible apply n_val); rfl; rfl)
    | ((with_reducible apply n_new); rfl; (first | (simp only [hn0, hn1, hn2, hn3, hn4, hn5, List.length_cons, List.length_nil, Nat.reduceAdd, Nat.zero_add]; done) | (simp only [hn0, hn1, hn2, hn3, hn4, hn5, List.length_cons, List.length_nil, Nat.reduceAdd, Nat.zero_add]; rfl) | rfl); rfl)
    | ((with_reducible apply n_store); rfl; rfl; rfl; rfl; rfl)
    | (with_reducible refine condT_split (fun h => ?_) (fun h => ?_))
    | ((with_reducible apply fnQ_told_ret); rfl)
    | ((with_reducible apply fnQ_ret_soft); rfl; rfl)
  rfl
theorem f_envs_own0 (l : List I64) (hb : l.length ≤ 1000) : Fresh Go.Proofs.Tryz.prog gl 101 [(.agg [.fn 99 [], .fn 100 []]), eIn pi true l, .int .i64 0] (.agg [.bool true, .ref 3 0 0 l.length]) (Hp.ofL [none, none, none, some ⟨0, 1, (l.map s8).map ps⟩]) :=
  f_envs_own l 0 l.length (by omega) hb _ (by have := tab_of (l.map s8) z8; rw [List.length_map] at this; exact this.symm)
theorem p_envs_own (on : Bool) (l : List I64) (hb : l.length ≤ 1000) : Pure Go.Proofs.Tryz.prog gl 101 [(.agg [.fn 99 [], .fn 100 []]), eIn pi on l, .int .i64 0] (eOut ps (eAbs s8 on l)) := by
  cases on with
  | false => exact p_envs_own_off l 0
  | true => exact (f_envs_own0 l hb).pure (soft_env (xs := l.map s8) (f := ps) rfl (fun _ => rfl) (List.length_map ..).symm)
theorem p_envs_set (on : Bool) (l : List I64) (i : Int) (c : I64) (hb : l.length ≤ 1000) : Pure Go.Proofs.Tryz.prog gl 78 [(.agg [.fn 99 [], .fn 100 []]), eIn pi on l, .int .i64 i, pi c] (eOut ps (eSet (eAbs s8 on l) i (s8 c))) := by
  cases on with
  | false =>
    refine Pure.fn hmix b78 ?_
    repeat' first
      | with_reducible refine tr_seq ?_
      | ((with_reducible refine tr_region_f ?_ ?_); kernel_rfl)
      | ((with_reducible refine tr_region_t ?_ ?_ ?_); kernel_rfl; kernel_rfl)
      | with_reducible refine n_nil ?_
      | exact ⟨rfl, rfl⟩
      | with_reducible refine seqQ_normal ?_
      | with_reducible refine seqQ_ret ?_
      | with_reducible refine blkQ_ret ?_
      | with_reducible refine tr_skip ?_
      | with_reducible refine tr_ret ?_
      | ((with_reducible apply tr_cond_e); rfl)
      | with_reducible refine condT_t ?_
      | with_reducible refine condT_f ?_
      | ((with_reducible apply n_and); rfl; rfl; intro h)
      | ((with_reducible apply n_or); rfl; rfl; intro h)
      | ((with_reducible apply n_val); rfl; rfl)
      | ((with_reducible apply n_new); rfl; (first | (simp only [hn0, hn1, hn2, hn3, hn4, hn5, List.length_cons, List.length_nil, Nat.reduceAdd, Nat.zero_add]; done) | (simp only [hn0, hn1, hn2, hn3, hn4, hn5, List.length_cons, List.length_nil, Nat.reduceAdd, Nat.zero_add]; rfl) | rfl); rfl)
      | ((with_reducible apply n_store); rfl; rfl; rfl; rfl; rfl)
      | ((with_reducible apply n_call (f := 101)); rfl; rfl; exact p_envs_own_off ..)
      | (with_reducible refine condT_split (fun h => ?_) (fun h => ?_))
      | ((with_reducible apply fnQ_told_ret); rfl)
      | ((with_reducible apply fnQ_ret_soft); rfl; rfl)
    · exfalso
      simp only [Bool.and_eq_true, decide_eq_true_eq, List.length_nil] at h
      omega
    · rfl
  | true =>
    refine Pure.fn hmix b78 ?_
    repeat' first
      | with_reducible refine tr_seq ?_
      | ((with_reducible refine tr_region_f ?_ ?_); kernel_rfl)
      | ((with_reducible refine tr_region_t ?_ ?_ ?_); kernel_rfl; kernel_rfl)
      | with_reducible refine n_nil ?_
      | exact ⟨rfl, rfl⟩
      | with_reducible refine seqQ_normal ?_
      | with_reducible refine seqQ_ret ?_
      | with_reducible refine blkQ_ret ?_
      | with_reducible refine tr_skip ?_
      | with_reducible refine tr_ret ?_
      | ((with_reducible apply tr_cond_e); rfl)
      | with_reducible refine condT_t ?_
      | with_reducible refine condT_f ?_
      | ((with_reducible apply n_and); rfl; rfl; intro h)
      | ((with_reducible apply n_or); rfl; rfl; intro h)
      | ((with_reducible apply n_idx_own); rfl; rfl; rfl; (simp only [Bool.and_eq_true, decide_eq_true_eq] at h; exact ⟨h.1, h.2⟩))
      | ((with_reducible apply n_store_vals (f := ps) (s8 c)); rfl; rfl; rfl; rfl; exact (fun _ => rfl); (simp only [Bool.and_eq_true, decide_eq_true_eq, List.length_map] at *; omega))
      | ((with_reducible apply fnQ_ret_env (f := ps)); rfl; rfl; exact (fun _ => rfl); exact (by simp))
      | ((with_reducible apply n_val); rfl; rfl)
      | ((with_reducible apply n_new); rfl; (first | (simp only [hn0, hn1, hn2, hn3, hn4, hn5, List.length_cons, List.length_nil, Nat.reduceAdd, Nat.zero_add]; done) | (simp only [hn0, hn1, hn2, hn3, hn4, hn5, List.length_cons, List.length_nil, Nat.reduceAdd, Nat.zero_add]; rfl) | rfl); rfl)
      | ((with_reducible apply n_store); rfl; rfl; rfl; rfl; rfl)
      | ((with_reducible apply n_freshL (f := 101)); (first | (simp only [hn0, hn1, hn2, hn3, hn4, hn5, List.length_cons, List.length_nil, Nat.reduceAdd, Nat.zero_add]; done) | (simp only [hn0, hn1, hn2, hn3, hn4, hn5, List.length_cons, List.length_nil, Nat.reduceAdd, Nat.zero_add]; rfl) | rfl); rfl; rfl; exact f_envs_own0 l hb; rfl; (repeat (first | exact ShL.nil | apply ShL.none | (apply ShL.some; (first | rfl | exact shiftPs_pure (u64s_pure _) | exact shiftPs_pure (ints_pure _) | exact shiftPs_pure (vals_pure (fun _ => rfl) _))))))
      | ((with_reducible apply n_call (f := 126)); rfl; rfl; exact p_envs_sane ..)
      | (with_reducible refine condT_split (fun h => ?_) (fun h => ?_))
      | ((with_reducible apply fnQ_told_ret); rfl)
      | ((with_reducible apply fnQ_ret_soft); rfl; rfl)
    all_goals (simp only [Bool.and_eq_true, decide_eq_true_eq, Bool.and_eq_false_iff, decide_eq_false_iff_not] at h)
    · rw [eAbs_on, eSet, Option.map_some, if_pos (by omega)]
      rfl
    · have e : eSet (eAbs s8 true l) i (s8 c) = some (l.map s8) := by
        rw [eAbs_on, eSet, Option.map_some]
        congr 1
        split
        · rw [List.set_eq_of_length_le (by rw [List.length_map]; omega)]
        · rfl
      rw [e]
      rfl
theorem eJoinS_on (l m : List I64) : eJoin z8 S8.join (eAbs s8 true l) (eAbs s8 true m) = some (tab (max l.length m.length) fun k => ((l.map s8).getD k z8).join ((m.map s8).getD k z8)) := by
  simp [eAbs, eJoin]
theorem p_envs_joined (oa ob : Bool) (l m : List I64) (hl : l.length ≤ 1000) (hm : m.length ≤ 1000) : Pure Go.Proofs.Tryz.prog gl 47 [(.agg [.fn 99 [], .fn 100 []]), eIn pi oa l, eIn pi ob m] (eOut ps (eJoin z8 S8.join (eAbs s8 oa l) (eAbs s8 ob m))) := by
  cases oa with
  | false =>
    refine Pure.fn hmix b47 ?_
    repeat' first
      | with_reducible refine tr_seq ?_
      | ((with_reducible refine tr_region_f ?_ ?_); kernel_rfl)
      | ((with_reducible refine tr_region_t ?_ ?_ ?_); kernel_rfl; kernel_rfl)
      | with_reducible refine n_nil ?_
      | with_reducible refine seqQ_normal ?_
      | with_reducible refine seqQ_exit ?_
      | with_reducible refine seqQ_ret ?_
      | with_reducible refine blkQ_normal ?_
      | with_reducible refine blkQ_exit ?_
      | with_reducible refine blkQ_ret ?_
      | ((with_reducible refine blkQ_exit_ne ?_ ?_); rfl)
      | with_reducible refine tr_block ?_
      | with_reducible refine tr_skip ?_
      | with_reducible refine tr_exit ?_
      | with_reducible refine tr_ret ?_
      | ((with_reducible apply tr_cond_e); rfl)
      | with_reducible refine condT_t ?_
      | with_reducible refine condT_f ?_
      | ((with_reducible refine condT_T ?_ ?_); decide +kernel)
      | ((with_reducible refine condT_F ?_ ?_); decide +kernel)
      | ((with_reducible apply n_andF); rfl; rfl; decide +kernel)
      | ((with_reducible apply n_orT); rfl; rfl; decide +kernel)
      | with_reducible refine loopV_exit ?_
      | with_reducible refine loopV_ret ?_
      | with_reducible refine unrQ_normal ?_
      | with_reducible refine unrQ_exit ?_
      | with_reducible refine unrQ_ret ?_
      | ((with_reducible apply n_val); rfl; rfl)
      | ((with_reducible apply n_new); rfl; (first | (simp only [hn0, hn1, hn2, hn3, hn4, hn5, List.length_cons, List.length_nil, Nat.reduceAdd, Nat.zero_add]; done) | (simp only [hn0, hn1, hn2, hn3, hn4, hn5, List.length_cons, List.length_nil, Nat.reduceAdd, Nat.zero_add]; rfl) | rfl); rfl)
      | ((with_reducible apply n_store); rfl; rfl; rfl; rfl; rfl)
      | ((with_reducible apply n_call (f := 101)); rfl; rfl; exact p_envs_own ob m hm)
      | (with_reducible refine condT_split (fun h => ?_) (fun h => ?_))
      | ((with_reducible apply fnQ_told_ret); rfl)
      | ((with_reducible apply fnQ_ret_soft); rfl; rfl)
    cases ob <;> rfl
  | true =>
  cases ob with
  | false =>
    refine Pure.fn hmix b47 ?_
    repeat' first
      | with_reducible refine tr_seq ?_
      | ((with_reducible refine tr_region_f ?_ ?_); kernel_rfl)
      | ((with_reducible refine tr_region_t ?_ ?_ ?_); kernel_rfl; kernel_rfl)
      | with_reducible refine n_nil ?_
      | with_reducible refine seqQ_normal ?_
      | with_reducible refine seqQ_exit ?_
      | with_reducible refine seqQ_ret ?_
      | with_reducible refine blkQ_normal ?_
      | with_reducible refine blkQ_exit ?_
      | with_reducible refine blkQ_ret ?_
      | ((with_reducible refine blkQ_exit_ne ?_ ?_); rfl)
      | with_reducible refine tr_block ?_
      | with_reducible refine tr_skip ?_
      | with_reducible refine tr_exit ?_
      | with_reducible refine tr_ret ?_
      | ((with_reducible apply tr_cond_e); rfl)
      | with_reducible refine condT_t ?_
      | with_reducible refine condT_f ?_
      | ((with_reducible refine condT_T ?_ ?_); decide +kernel)
      | ((with_reducible refine condT_F ?_ ?_); decide +kernel)
      | ((with_reducible apply n_andF); rfl; rfl; decide +kernel)
      | ((with_reducible apply n_orT); rfl; rfl; decide +kernel)
      | with_reducible refine loopV_exit ?_
      | with_reducible refine loopV_ret ?_
      | with_reducible refine unrQ_normal ?_
      | with_reducible refine unrQ_exit ?_
      | with_reducible refine unrQ_ret ?_
      | ((with_reducible apply n_val); rfl; rfl)
      | ((with_reducible apply n_new); rfl; (first | (simp only [hn0, hn1, hn2, hn3, hn4, hn5, List.length_cons, List.length_nil, Nat.reduceAdd, Nat.zero_add]; done) | (simp only [hn0, hn1, hn2, hn3, hn4, hn5, List.length_cons, List.length_nil, Nat.reduceAdd, Nat.zero_add]; rfl) | rfl); rfl)
      | ((with_reducible apply n_store); rfl; rfl; rfl; rfl; rfl)
      | ((with_reducible apply n_call (f := 101)); rfl; rfl; exact p_envs_own true l hl)
      | (with_reducible refine condT_split (fun h => ?_) (fun h => ?_))
      | ((with_reducible apply fnQ_told_ret); rfl)
      | ((with_reducible apply fnQ_ret_soft); rfl; rfl)
    rfl
  | true =>
    rw [eJoinS_on]
    obtain ⟨N, hN⟩ : ∃ N, N = max l.length m.length := ⟨_, rfl⟩
    rw [← hN]
    obtain ⟨O, hO⟩ : ∃ O, O = tab N fun k => (l.map s8).getD k z8 := ⟨_, rfl⟩
    obtain ⟨R, hR⟩ : ∃ R, R = tab N fun k => ((l.map s8).getD k z8).join ((m.map s8).getD k z8) := ⟨_, rfl⟩
    rw [← hR]
    have hOl : O.length = N := by rw [hO]; exact tab_length
    have hRl : R.length = N := by rw [hR]; exact tab_length
    have hRO : R.length = O.length := by rw [hOl, hRl]
    have hg : ∀ k : Nat, k < N → ps (((mixL R O k).getD k z8).join (eGet z8 (eAbs s8 true m) (k : Int))) = ps (R.getD k z8) := fun k hk => by
      rw [eGetS_on, hR, tab_getD hk, ← hR, mixL_getD hRO (by omega), hO, tab_getD hk]
    have hown := f_envs_own (gl := gl) l (m.length : Nat) N (by omega) (by omega) O hO
    refine Pure.fn hmix b47 ?_
    repeat' first
      | with_reducible refine tr_seq ?_
      | ((with_reducible refine tr_region_f ?_ ?_); kernel_rfl)
      | ((with_reducible refine tr_region_t ?_ ?_ ?_); kernel_rfl; kernel_rfl)
      | with_reducible refine n_nil ?_
      | with_reducible refine seqQ_normal ?_
      | with_reducible refine seqQ_exit ?_
      | with_reducible refine seqQ_ret ?_
      | with_reducible refine blkQ_normal ?_
      | with_reducible refine blkQ_exit ?_
      | with_reducible refine blkQ_ret ?_
      | ((with_reducible refine blkQ_exit_ne ?_ ?_); rfl)
      | with_reducible refine tr_block ?_
      | with_reducible refine tr_skip ?_
      | with_reducible refine tr_exit ?_
      | with_reducible refine tr_ret ?_
      | ((with_reducible apply tr_cond_e); rfl)
      | with_reducible refine condT_t ?_
      | with_reducible refine condT_f ?_
      | ((with_reducible refine condT_T ?_ ?_); decide +kernel)
      | ((with_reducible refine condT_F ?_ ?_); decide +kernel)
      | ((with_reducible apply n_andF); rfl; rfl; decide +kernel)
      | ((with_reducible apply n_orT); rfl; rfl; decide +kernel)
      | with_reducible refine loopV_exit ?_
      | with_reducible refine loopV_ret ?_
      | with_reducible refine unrQ_normal ?_
      | with_reducible refine unrQ_exit ?_
      | with_reducible refine unrQ_ret ?_
      | ((with_reducible apply n_freshL (f := 101)); rfl; rfl; rfl; (rw [List.length_map]; exact hown); rfl; (repeat (first | exact ShL.nil | apply ShL.none | (apply ShL.some; exact shiftPs_pure (vals_pure (fun _ => rfl) _)))))
      | (first | ((with_reducible apply n_bin); rfl; rfl; focus ((with_reducible (first | apply b_add | apply b_sub)) <;> first | omega | (simp only [decide_eq_true_eq, decide_eq_false_iff_not, Bool.or_eq_false_iff, Bool.not_eq_true', Bool.not_eq_false', Bool.not_true, Bool.not_false, ints_length, List.length_map, tab_length] at *; omega))) | ((with_reducible apply n_max); rfl; rfl) | ((with_reducible apply n_min); rfl; rfl))
      | ((with_reducible apply n_idx_own); rfl; rfl; rfl; (first | omega | (simp only [decide_eq_true_eq, decide_eq_false_iff_not, Bool.or_eq_false_iff, Bool.not_eq_true', Bool.not_eq_false', Bool.not_true, Bool.not_false, ints_length, List.length_map, tab_length] at *; omega)))
      | ((with_reducible apply n_load_vals (f := ps) z8); rfl; rfl; rfl; (rw [mixL_length hRO]; first | omega | (simp only [decide_eq_true_eq, decide_eq_false_iff_not, Bool.or_eq_false_iff, Bool.not_eq_true', Bool.not_eq_false', Bool.not_true, Bool.not_false, ints_length, List.length_map, tab_length] at *; omega)))
      | ((with_reducible apply n_callv); rfl; rfl; rfl; exact p_sign_JoinV ..)
      | ((with_reducible apply n_store_vals (f := ps) (R.getD k z8)); rfl; rfl; rfl; exact hg _ (by first | omega | (simp only [decide_eq_true_eq, decide_eq_false_iff_not, Bool.or_eq_false_iff, Bool.not_eq_true', Bool.not_eq_false', Bool.not_true, Bool.not_false, ints_length, List.length_map, tab_length] at *; omega)); exact (fun _ => rfl); (rw [mixL_length hRO]; first | omega | (simp only [decide_eq_true_eq, decide_eq_false_iff_not, Bool.or_eq_false_iff, Bool.not_eq_true', Bool.not_eq_false', Bool.not_true, Bool.not_false, ints_length, List.length_map, tab_length] at *; omega)))
      | ((with_reducible apply fnQ_ret_env (f := ps)); rfl; rfl; exact (fun _ => rfl); (rw [mixL_length hRO, hOl]))
      | (refine tr_loop_v (α := Nat) 9 (fun | k => [(29, some (.int .i64 (k : Int))), (30, none), (31, none), (8, none), (32, none), (33, none), (34, none), (35, none), (36, none), (37, none), (38, none), (39, none), (40, none), (41, none), (42, none), (43, none), (44, none), (45, none), (46, none), (47, none), (48, none)]) (fun | k => [some ⟨0, 2, [(.agg [.fn 99 [], .fn 100 []])]⟩, some ⟨0, 2, [eIn pi true l]⟩, some ⟨0, 2, [eIn pi true m]⟩, some ⟨0, 2, [.agg [.bool false, .lit []]]⟩, none, none, none, some ⟨0, 1, (mixL R O k).map ps⟩, some ⟨0, 2, [.agg [.bool true, .ref 7 0 0 N]]⟩]) (fun | k => k ≤ N) (fun | k => N - k) (0) (ks := [29, 30, 31, 8, 32, 33, 34, 35, 36, 37, 38, 39, 40, 41, 42, 43, 44, 45, 46, 47, 48]) (fun _ => rfl) (fun _ => rfl) rfl (by omega) ?_ ⟨⟨_, rfl, rfl⟩, trivial⟩ ⟨⟨_, rfl, rfl, rfl, (by first | exact fzP_vals (fun _ => rfl) (mixL_set hRO (by first | omega | (simp only [decide_eq_true_eq, decide_eq_false_iff_not, Bool.or_eq_false_iff, Bool.not_eq_true', Bool.not_eq_false', Bool.not_true, Bool.not_false, ints_length, List.length_map, tab_length] at *; omega)) z8) |  rfl | exact fzP_pure (ints_pure _) | exact fzP_pure (u64s_pure _) | exact fzP_pure (by assumption) | exact fzP_pure (by first | (simp [pureE, pure1, ints]; done) | (simp_all [pe_int, pe_bool, pe_str, pe_sl, pe_agg, p1_int, p1_bool, p1_str, p1_sl]; done)))⟩, ⟨_, rfl, rfl, rfl, (by first | exact fzP_vals (fun _ => rfl) (mixL_set hRO (by first | omega | (simp only [decide_eq_true_eq, decide_eq_false_iff_not, Bool.or_eq_false_iff, Bool.not_eq_true', Bool.not_eq_false', Bool.not_true, Bool.not_false, ints_length, List.length_map, tab_length] at *; omega)) z8) |  rfl | exact fzP_pure (ints_pure _) | exact fzP_pure (u64s_pure _) | exact fzP_pure (by assumption) | exact fzP_pure (by first | (simp [pureE, pure1, ints]; done) | (simp_all [pe_int, pe_bool, pe_str, pe_sl, pe_agg, p1_int, p1_bool, p1_str, p1_sl]; done)))⟩, ⟨_, rfl, rfl, rfl, (by first | exact fzP_vals (fun _ => rfl) (mixL_set hRO (by first | omega | (simp only [decide_eq_true_eq, decide_eq_false_iff_not, Bool.or_eq_false_iff, Bool.not_eq_true', Bool.not_eq_false', Bool.not_true, Bool.not_false, ints_length, List.length_map, tab_length] at *; omega)) z8) |  rfl | exact fzP_pure (ints_pure _) | exact fzP_pure (u64s_pure _) | exact fzP_pure (by assumption) | exact fzP_pure (by first | (simp [pureE, pure1, ints]; done) | (simp_all [pe_int, pe_bool, pe_str, pe_sl, pe_agg, p1_int, p1_bool, p1_str, p1_sl]; done)))⟩, ⟨_, rfl, rfl, rfl, (by first | exact fzP_vals (fun _ => rfl) (mixL_set hRO (by first | omega | (simp only [decide_eq_true_eq, decide_eq_false_iff_not, Bool.or_eq_false_iff, Bool.not_eq_true', Bool.not_eq_false', Bool.not_true, Bool.not_false, ints_length, List.length_map, tab_length] at *; omega)) z8) |  rfl | exact fzP_pure (ints_pure _) | exact fzP_pure (u64s_pure _) | exact fzP_pure (by assumption) | exact fzP_pure (by first | (simp [pureE, pure1, ints]; done) | (simp_all [pe_int, pe_bool, pe_str, pe_sl, pe_agg, p1_int, p1_bool, p1_str, p1_sl]; done)))⟩, ⟨_, rfl, rfl, rfl, (by first | exact fzP_vals (fun _ => rfl) (mixL_set hRO (by first | omega | (simp only [decide_eq_true_eq, decide_eq_false_iff_not, Bool.or_eq_false_iff, Bool.not_eq_true', Bool.not_eq_false', Bool.not_true, Bool.not_false, ints_length, List.length_map, tab_length] at *; omega)) z8) |  rfl | exact fzP_pure (ints_pure _) | exact fzP_pure (u64s_pure _) | exact fzP_pure (by assumption) | exact fzP_pure (by first | (simp [pureE, pure1, ints]; done) | (simp_all [pe_int, pe_bool, pe_str, pe_sl, pe_agg, p1_int, p1_bool, p1_str, p1_sl]; done)))⟩, ⟨_, rfl, rfl, rfl, (by first | exact fzP_vals (fun _ => rfl) (mixL_set hRO (by first | omega | (simp only [decide_eq_true_eq, decide_eq_false_iff_not, Bool.or_eq_false_iff, Bool.not_eq_true', Bool.not_eq_false', Bool.not_true, Bool.not_false, ints_length, List.length_map, tab_length] at *; omega)) z8) |  rfl | exact fzP_pure (ints_pure _) | exact fzP_pure (u64s_pure _) | exact fzP_pure (by assumption) | exact fzP_pure (by first | (simp [pureE, pure1, ints]; done) | (simp_all [pe_int, pe_bool, pe_str, pe_sl, pe_agg, p1_int, p1_bool, p1_str, p1_sl]; done)))⟩, trivial⟩ ?_; rotate_left; rintro k hx; try dsimp only at hx)
      | ((first | (refine loopV_normal ((k + 1)) ?_ ⟨⟨_, rfl, rfl⟩, trivial⟩ ⟨⟨_, rfl, rfl, rfl, (by first | exact fzP_vals (fun _ => rfl) (mixL_set hRO (by first | omega | (simp only [decide_eq_true_eq, decide_eq_false_iff_not, Bool.or_eq_false_iff, Bool.not_eq_true', Bool.not_eq_false', Bool.not_true, Bool.not_false, ints_length, List.length_map, tab_length] at *; omega)) z8) |  rfl | exact fzP_pure (ints_pure _) | exact fzP_pure (u64s_pure _) | exact fzP_pure (by assumption) | exact fzP_pure (by first | (simp [pureE, pure1, ints]; done) | (simp_all [pe_int, pe_bool, pe_str, pe_sl, pe_agg, p1_int, p1_bool, p1_str, p1_sl]; done)))⟩, ⟨_, rfl, rfl, rfl, (by first | exact fzP_vals (fun _ => rfl) (mixL_set hRO (by first | omega | (simp only [decide_eq_true_eq, decide_eq_false_iff_not, Bool.or_eq_false_iff, Bool.not_eq_true', Bool.not_eq_false', Bool.not_true, Bool.not_false, ints_length, List.length_map, tab_length] at *; omega)) z8) |  rfl | exact fzP_pure (ints_pure _) | exact fzP_pure (u64s_pure _) | exact fzP_pure (by assumption) | exact fzP_pure (by first | (simp [pureE, pure1, ints]; done) | (simp_all [pe_int, pe_bool, pe_str, pe_sl, pe_agg, p1_int, p1_bool, p1_str, p1_sl]; done)))⟩, ⟨_, rfl, rfl, rfl, (by first | exact fzP_vals (fun _ => rfl) (mixL_set hRO (by first | omega | (simp only [decide_eq_true_eq, decide_eq_false_iff_not, Bool.or_eq_false_iff, Bool.not_eq_true', Bool.not_eq_false', Bool.not_true, Bool.not_false, ints_length, List.length_map, tab_length] at *; omega)) z8) |  rfl | exact fzP_pure (ints_pure _) | exact fzP_pure (u64s_pure _) | exact fzP_pure (by assumption) | exact fzP_pure (by first | (simp [pureE, pure1, ints]; done) | (simp_all [pe_int, pe_bool, pe_str, pe_sl, pe_agg, p1_int, p1_bool, p1_str, p1_sl]; done)))⟩, ⟨_, rfl, rfl, rfl, (by first | exact fzP_vals (fun _ => rfl) (mixL_set hRO (by first | omega | (simp only [decide_eq_true_eq, decide_eq_false_iff_not, Bool.or_eq_false_iff, Bool.not_eq_true', Bool.not_eq_false', Bool.not_true, Bool.not_false, ints_length, List.length_map, tab_length] at *; omega)) z8) |  rfl | exact fzP_pure (ints_pure _) | exact fzP_pure (u64s_pure _) | exact fzP_pure (by assumption) | exact fzP_pure (by first | (simp [pureE, pure1, ints]; done) | (simp_all [pe_int, pe_bool, pe_str, pe_sl, pe_agg, p1_int, p1_bool, p1_str, p1_sl]; done)))⟩, ⟨_, rfl, rfl, rfl, (by first | exact fzP_vals (fun _ => rfl) (mixL_set hRO (by first | omega | (simp only [decide_eq_true_eq, decide_eq_false_iff_not, Bool.or_eq_false_iff, Bool.not_eq_true', Bool.not_eq_false', Bool.not_true, Bool.not_false, ints_length, List.length_map, tab_length] at *; omega)) z8) |  rfl | exact fzP_pure (ints_pure _) | exact fzP_pure (u64s_pure _) | exact fzP_pure (by assumption) | exact fzP_pure (by first | (simp [pureE, pure1, ints]; done) | (simp_all [pe_int, pe_bool, pe_str, pe_sl, pe_agg, p1_int, p1_bool, p1_str, p1_sl]; done)))⟩, ⟨_, rfl, rfl, rfl, (by first | exact fzP_vals (fun _ => rfl) (mixL_set hRO (by first | omega | (simp only [decide_eq_true_eq, decide_eq_false_iff_not, Bool.or_eq_false_iff, Bool.not_eq_true', Bool.not_eq_false', Bool.not_true, Bool.not_false, ints_length, List.length_map, tab_length] at *; omega)) z8) |  rfl | exact fzP_pure (ints_pure _) | exact fzP_pure (u64s_pure _) | exact fzP_pure (by assumption) | exact fzP_pure (by first | (simp [pureE, pure1, ints]; done) | (simp_all [pe_int, pe_bool, pe_str, pe_sl, pe_agg, p1_int, p1_bool, p1_str, p1_sl]; done)))⟩, trivial⟩ ?_ ?_)); repeat (first | exact only_refl | refine only_put rfl ?_ | refine only_less rfl ?_ | refine only_ov rfl ?_))
      | ((with_reducible apply n_val); rfl; rfl)
      | ((with_reducible apply n_new); rfl; (first | (simp only [hn0, hn1, hn2, hn3, hn4, hn5, List.length_cons, List.length_nil, Nat.reduceAdd, Nat.zero_add]; done) | (simp only [hn0, hn1, hn2, hn3, hn4, hn5, List.length_cons, List.length_nil, Nat.reduceAdd, Nat.zero_add]; rfl) | rfl); rfl)
      | ((with_reducible apply n_store); rfl; rfl; rfl; rfl; rfl)
      | ((with_reducible apply n_call (f := 102)); rfl; rfl; exact p_envs_get ..)
      | (with_reducible refine condT_split (fun h => ?_) (fun h => ?_))
      | ((with_reducible apply fnQ_told_ret); rfl)
      | ((with_reducible apply fnQ_ret_soft); rfl; rfl)
    all_goals (try dsimp only at *)
    all_goals (try simp only [decide_eq_true_eq, decide_eq_false_iff_not] at *)
    · omega
    · omega
    · rw [mixL_full (by omega) (by omega)]
      rfl
    · omega
theorem p_envs_below (oa ob : Bool) (l m : List I64) (hl : l.length ≤ 1000) (hm : m.length ≤ 1000) : Pure Go.Proofs.Tryz.prog gl 54 [(.agg [.fn 99 [], .fn 100 []]), eIn pi oa l, eIn pi ob m] (.bool (eLeq z8 S8.leq (eAbs s8 oa l) (eAbs s8 ob m))) := by
  cases oa with
  | false =>
    refine Pure.fn hmix b54 ?_
    repeat' first
      | with_reducible refine tr_seq ?_
      | ((with_reducible refine tr_region_f ?_ ?_); kernel_rfl)
      | ((with_reducible refine tr_region_t ?_ ?_ ?_); kernel_rfl; kernel_rfl)
      | with_reducible refine n_nil ?_
      | exact ⟨rfl, rfl⟩
      | with_reducible refine seqQ_normal ?_
      | with_reducible refine seqQ_exit ?_
      | with_reducible refine seqQ_ret ?_
      | with_reducible refine blkQ_normal ?_
      | with_reducible refine blkQ_exit ?_
      | with_reducible refine blkQ_ret ?_
      | ((with_reducible refine blkQ_exit_ne ?_ ?_); rfl)
      | with_reducible refine tr_block ?_
      | with_reducible refine tr_skip ?_
      | with_reducible refine tr_exit ?_
      | with_reducible refine tr_ret ?_
      | ((with_reducible apply tr_cond_e); rfl)
      | with_reducible refine condT_t ?_
      | with_reducible refine condT_f ?_
      | ((with_reducible refine condT_T ?_ ?_); decide +kernel)
      | ((with_reducible refine condT_F ?_ ?_); decide +kernel)
      | ((with_reducible apply n_andF); rfl; rfl; decide +kernel)
      | ((with_reducible apply n_orT); rfl; rfl; decide +kernel)
      | ((with_reducible apply n_and); rfl; rfl; intro h)
      | ((with_reducible apply n_or); rfl; rfl; intro h)
      | with_reducible refine loopV_exit ?_
      | with_reducible refine loopV_ret ?_
      | with_reducible refine unrQ_normal ?_
      | with_reducible refine unrQ_exit ?_
      | with_reducible refine unrQ_ret ?_
      | ((with_reducible apply n_val); rfl; rfl)
      | ((with_reducible apply n_new); rfl; (first | (simp only [hn0, hn1, hn2, hn3, hn4, hn5, List.length_cons, List.length_nil, Nat.reduceAdd, Nat.zero_add]; done) | (simp only [hn0, hn1, hn2, hn3, hn4, hn5, List.length_cons, List.length_nil, Nat.reduceAdd, Nat.zero_add]; rfl) | rfl); rfl)
      | (with_reducible refine condT_split (fun h => ?_) (fun h => ?_))
      | ((with_reducible apply fnQ_told_ret); rfl)
      | ((with_reducible apply fnQ_ret_soft); rfl; rfl)
    all_goals rfl
  | true =>
  cases ob with
  | false =>
    refine Pure.fn hmix b54 ?_
    repeat' first
      | with_reducible refine tr_seq ?_
      | ((with_reducible refine tr_region_f ?_ ?_); kernel_rfl)
      | ((with_reducible refine tr_region_t ?_ ?_ ?_); kernel_rfl; kernel_rfl)
      | with_reducible refine n_nil ?_
      | exact ⟨rfl, rfl⟩
      | with_reducible refine seqQ_normal ?_
      | with_reducible refine seqQ_exit ?_
      | with_reducible refine seqQ_ret ?_
      | with_reducible refine blkQ_normal ?_
      | with_reducible refine blkQ_exit ?_
      | with_reducible refine blkQ_ret ?_
      | ((with_reducible refine blkQ_exit_ne ?_ ?_); rfl)
      | with_reducible refine tr_block ?_
      | with_reducible refine tr_skip ?_
      | with_reducible refine tr_exit ?_
      | with_reducible refine tr_ret ?_
      | ((with_reducible apply tr_cond_e); rfl)
      | with_reducible refine condT_t ?_
      | with_reducible refine condT_f ?_
      | ((with_reducible refine condT_T ?_ ?_); decide +kernel)
      | ((with_reducible refine condT_F ?_ ?_); decide +kernel)
      | ((with_reducible apply n_andF); rfl; rfl; decide +kernel)
      | ((with_reducible apply n_orT); rfl; rfl; decide +kernel)
      | ((with_reducible apply n_and); rfl; rfl; intro h)
      | ((with_reducible apply n_or); rfl; rfl; intro h)
      | with_reducible refine loopV_exit ?_
      | with_reducible refine loopV_ret ?_
      | with_reducible refine unrQ_normal ?_
      | with_reducible refine unrQ_exit ?_
      | with_reducible refine unrQ_ret ?_
      | ((with_reducible apply n_val); rfl; rfl)
      | ((with_reducible apply n_new); rfl; (first | (simp only [hn0, hn1, hn2, hn3, hn4, hn5, List.length_cons, List.length_nil, Nat.reduceAdd, Nat.zero_add]; done) | (simp only [hn0, hn1, hn2, hn3, hn4, hn5, List.length_cons, List.length_nil, Nat.reduceAdd, Nat.zero_add]; rfl) | rfl); rfl)
      | (with_reducible refine condT_split (fun h => ?_) (fun h => ?_))
      | ((with_reducible apply fnQ_told_ret); rfl)
      | ((with_reducible apply fnQ_ret_soft); rfl; rfl)
    all_goals rfl
  | true =>
    obtain ⟨N, hN⟩ : ∃ N, N = max l.length m.length := ⟨_, rfl⟩
    have e : eLeq z8 S8.leq (eAbs s8 true l) (eAbs s8 true m) = (List.range N).all fun k => ((l.map s8).getD k z8).leq ((m.map s8).getD k z8) := by
      rw [hN]; simp [eAbs, eLeq]
    rw [e]
    refine Pure.fn hmix b54 ?_
    repeat' first
      | with_reducible refine tr_seq ?_
      | ((with_reducible refine tr_region_f ?_ ?_); kernel_rfl)
      | ((with_reducible refine tr_region_t ?_ ?_ ?_); kernel_rfl; kernel_rfl)
      | with_reducible refine n_nil ?_
      | exact ⟨rfl, rfl⟩
      | with_reducible refine seqQ_normal ?_
      | with_reducible refine seqQ_exit ?_
      | with_reducible refine seqQ_ret ?_
      | with_reducible refine blkQ_normal ?_
      | with_reducible refine blkQ_exit ?_
      | with_reducible refine blkQ_ret ?_
      | ((with_reducible refine blkQ_exit_ne ?_ ?_); rfl)
      | with_reducible refine tr_block ?_
      | with_reducible refine tr_skip ?_
      | with_reducible refine tr_exit ?_
      | with_reducible refine tr_ret ?_
      | ((with_reducible apply tr_cond_e); rfl)
      | with_reducible refine condT_t ?_
      | with_reducible refine condT_f ?_
      | ((with_reducible refine condT_T ?_ ?_); decide +kernel)
      | ((with_reducible refine condT_F ?_ ?_); decide +kernel)
      | ((with_reducible apply n_andF); rfl; rfl; decide +kernel)
      | ((with_reducible apply n_orT); rfl; rfl; decide +kernel)
      | ((with_reducible apply n_and); rfl; rfl; intro h)
      | ((with_reducible apply n_or); rfl; rfl; intro h)
      | with_reducible refine loopV_exit ?_
      | with_reducible refine loopV_ret ?_
      | with_reducible refine unrQ_normal ?_
      | with_reducible refine unrQ_exit ?_
      | with_reducible refine unrQ_ret ?_
      | ((with_reducible apply n_max_to (c := (N : Int))); rfl; rfl; (rw [List.length_map, List.length_map]; omega))
      | (first | ((with_reducible apply n_bin); rfl; rfl; focus ((with_reducible (first | apply b_add | apply b_sub)) <;> first | omega | (simp only [decide_eq_true_eq, decide_eq_false_iff_not, Bool.or_eq_false_iff, Bool.not_eq_true', Bool.not_eq_false', Bool.not_true, Bool.not_false, ints_length, List.length_map, tab_length] at *; omega))) | ((with_reducible apply n_max); rfl; rfl) | ((with_reducible apply n_min); rfl; rfl))
      | ((with_reducible apply n_callv); rfl; rfl; rfl; exact p_sign_LeqV ..)
      | (refine tr_loop_v (α := Nat) 3 (fun | k => [(26, some (.int .i64 (k : Int))), (27, none), (28, none), (7, none), (29, none), (30, none), (31, none), (32, none), (33, none), (34, none), (35, none), (36, none), (37, none), (38, none), (39, none), (40, none), (6, none), (41, none)]) (fun | k => [some ⟨0, 2, [(.agg [.fn 99 [], .fn 100 []])]⟩, some ⟨0, 2, [eIn pi true l]⟩, some ⟨0, 2, [eIn pi true m]⟩]) (fun | k => k ≤ N ∧ ∀ j, j < k → ((l.map s8).getD j z8).leq ((m.map s8).getD j z8) = true) (fun | k => N - k) (0) (ks := [26, 27, 28, 7, 29, 30, 31, 32, 33, 34, 35, 36, 37, 38, 39, 40, 6, 41]) (fun _ => rfl) (fun _ => rfl) rfl (by omega) ?_ ⟨⟨_, rfl, rfl⟩, trivial⟩ ⟨⟨_, rfl, rfl, rfl, (by first |  rfl | exact fzP_pure (ints_pure _) | exact fzP_pure (u64s_pure _) | exact fzP_pure (by assumption) | exact fzP_pure (by first | (simp [pureE, pure1, ints]; done) | (simp_all [pe_int, pe_bool, pe_str, pe_sl, pe_agg, p1_int, p1_bool, p1_str, p1_sl]; done)))⟩, ⟨_, rfl, rfl, rfl, (by first |  rfl | exact fzP_pure (ints_pure _) | exact fzP_pure (u64s_pure _) | exact fzP_pure (by assumption) | exact fzP_pure (by first | (simp [pureE, pure1, ints]; done) | (simp_all [pe_int, pe_bool, pe_str, pe_sl, pe_agg, p1_int, p1_bool, p1_str, p1_sl]; done)))⟩, ⟨_, rfl, rfl, rfl, (by first |  rfl | exact fzP_pure (ints_pure _) | exact fzP_pure (u64s_pure _) | exact fzP_pure (by assumption) | exact fzP_pure (by first | (simp [pureE, pure1, ints]; done) | (simp_all [pe_int, pe_bool, pe_str, pe_sl, pe_agg, p1_int, p1_bool, p1_str, p1_sl]; done)))⟩, trivial⟩ ?_; rotate_left; rintro k hx; try dsimp only at hx)
      | ((first | (refine loopV_normal ((k + 1)) ?_ ⟨⟨_, rfl, rfl⟩, trivial⟩ ⟨⟨_, rfl, rfl, rfl, (by first |  rfl | exact fzP_pure (ints_pure _) | exact fzP_pure (u64s_pure _) | exact fzP_pure (by assumption) | exact fzP_pure (by first | (simp [pureE, pure1, ints]; done) | (simp_all [pe_int, pe_bool, pe_str, pe_sl, pe_agg, p1_int, p1_bool, p1_str, p1_sl]; done)))⟩, ⟨_, rfl, rfl, rfl, (by first |  rfl | exact fzP_pure (ints_pure _) | exact fzP_pure (u64s_pure _) | exact fzP_pure (by assumption) | exact fzP_pure (by first | (simp [pureE, pure1, ints]; done) | (simp_all [pe_int, pe_bool, pe_str, pe_sl, pe_agg, p1_int, p1_bool, p1_str, p1_sl]; done)))⟩, ⟨_, rfl, rfl, rfl, (by first |  rfl | exact fzP_pure (ints_pure _) | exact fzP_pure (u64s_pure _) | exact fzP_pure (by assumption) | exact fzP_pure (by first | (simp [pureE, pure1, ints]; done) | (simp_all [pe_int, pe_bool, pe_str, pe_sl, pe_agg, p1_int, p1_bool, p1_str, p1_sl]; done)))⟩, trivial⟩ ?_ ?_)); repeat (first | exact only_refl | refine only_put rfl ?_ | refine only_less rfl ?_ | refine only_ov rfl ?_))
      | ((with_reducible apply n_val); rfl; rfl)
      | ((with_reducible apply n_new); rfl; (first | (simp only [hn0, hn1, hn2, hn3, hn4, hn5, List.length_cons, List.length_nil, Nat.reduceAdd, Nat.zero_add]; done) | (simp only [hn0, hn1, hn2, hn3, hn4, hn5, List.length_cons, List.length_nil, Nat.reduceAdd, Nat.zero_add]; rfl) | rfl); rfl)
      | ((with_reducible apply n_call (f := 102)); rfl; rfl; exact p_envs_get ..)
      | (with_reducible refine condT_split (fun h => ?_) (fun h => ?_))
      | ((with_reducible apply fnQ_told_ret); rfl)
      | ((with_reducible apply fnQ_ret_soft); rfl; rfl)
    all_goals (try dsimp only at *)
    all_goals (try simp only [decide_eq_true_eq, decide_eq_false_iff_not, Bool.not_eq_true', Bool.not_eq_false', eGetS_on] at *)
    · refine congrArg PV.bool (Eq.symm ?_)
      rw [List.all_eq_false]
      exact ⟨k, List.mem_range.2 (by omega), by rw [h]; simp⟩
    · omega
    · refine ⟨by omega, fun j hj => ?_⟩
      by_cases e : j = k
      · subst e; assumption
      · exact hx.2 j (by omega)
    · rw [List.all_eq_true.2 (fun j hj => hx.2 j (by have := List.mem_range.1 hj; omega))]
    · exact ⟨by omega, fun j hj => absurd hj (by omega)⟩
end
end Go.Vm
end
