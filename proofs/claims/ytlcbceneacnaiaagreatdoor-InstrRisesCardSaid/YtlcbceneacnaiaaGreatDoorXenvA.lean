/- Laid. -/
import Derived.Test.YtlcbceneacnaiaaGreatDoorVmThree
import Derived.KernelRfl
import Derived.Test.YtlcbceneacnaiaaGreatDoorProg
import Derived.Test.YtlcbceneacnaiaaGreatDoorXsignF
import Derived.Test.YtlcbceneacnaiaaGreatDoorLAll
section
/- Code. -/
set_option maxRecDepth 100000
set_option linter.unusedSimpArgs false
set_option linter.unusedVariables false
namespace Go.Vm
open Go
def c44 : RFn := ⟨(.seq (.region (Nodes.flat none (.op (some 0) (.alloc (.agg [.nilf, .nilf])) 0
  .nil)) false)
 (.seq (.region (Nodes.flat none (.op (some 1) (.build [.nilf, .nilf] [(0, 1, (.c (.fn 95 []))), (1, 1, (.c (.fn 96 [])))]) 0
  (.op none (.store 2 (.t 0) (.t 1)) 0
  .nil))) false)
 .ret)),
 [.cell (some 2) 0]⟩
theorem b44 : fnOf Go.Proofs.Tryz.prog (owOf []) 44 = some c44 := by kernel_rfl
def c45 : RFn := ⟨(.seq (.region (Nodes.flat none (.op (some 3) (.box (.t 0)) 0
  (.op (some 4) (.box (.t 1)) 0
  (.op (some 5) (.box (.t 2)) 0
  (.op (some 6) (.alloc (.agg [(.bool false), (.lit [])])) 0
  .nil))))) false)
 (.seq (.seq (.region (Nodes.flat none (.op (some 9) (.fieldAddr 0 (.t 4)) 0
  (.op (some 10) (.load none (.t 9)) 0
  (.op (some 11) (.un .not (.t 10)) 0
  .nil)))) false)
 (.cond (.t 11)
 (.region (Nodes.flat none (.op (some 12) (.load (some 2) (.t 5)) 0
  (.op (some 13) (.load (some 2) (.t 4)) 0
  (.op none (.store 2 (.t 4) (.t 12)) 0
  (.op none (.store 2 (.t 5) (.t 13)) 0
  .nil))))) false)
 .skip))
 (.seq (.seq (.region (Nodes.flat none (.op (some 14) (.fieldAddr 0 (.t 5)) 0
  (.op (some 15) (.load none (.t 14)) 0
  (.op (some 16) (.un .not (.t 15)) 0
  .nil)))) false)
 (.cond (.t 16)
 (.seq (.region (Nodes.flat none (.op (some 17) (.load (some 2) (.t 3)) 0
  (.op (some 18) (.load (some 2) (.t 4)) 0
  (.op (some 19) (.call 97 [(.t 17), (.t 18), (.c (.int .i64 0))]) 0
  (.op none (.store 2 (.t 6) (.t 19)) 0
  .nil))))) false)
 .ret)
 .skip))
 (.seq (.region (Nodes.flat none (.op (some 20) (.load (some 2) (.t 3)) 0
  (.op (some 21) (.load (some 2) (.t 4)) 0
  (.op (some 22) (.fieldAddr 1 (.t 5)) 0
  (.op (some 23) (.load none (.t 22)) 0
  (.op (some 24) (.len false (.t 23)) 0
  (.op (some 25) (.call 97 [(.t 20), (.t 21), (.t 24)]) 0
  (.op (some 7) (.alloc (.agg [(.bool false), (.lit [])])) 0
  (.op none (.store 2 (.t 7) (.t 25)) 0
  .nil))))))))) false)
 (.seq (.seq (.region (Nodes.flat none (.op (some 26) (.fieldAddr 1 (.t 7)) 0
  (.op (some 27) (.load none (.t 26)) 0
  (.op (some 28) (.len false (.t 27)) 0
  (.op (some 29) (.move (.c (.int .i64 0))) 0
  .nil))))) false)
 (.block 0 (.loop (.seq (.region (Nodes.flat none (.op (some 30) (.bin .lss (.t 29) (.t 28)) 0
  .nil)) false)
 (.seq (.cond (.t 30)
 .skip
 (.exit 0))
 (.seq (.block 1 (.seq (.region (Nodes.flat none (.op (some 31) (.move (.t 29)) 0
  (.op (some 8) (.move (.t 31)) 0
  .nil))) false)
 (.region (Nodes.flat none (.op (some 32) (.fieldAddr 1 (.t 7)) 0
  (.op (some 33) (.load none (.t 32)) 1
  (.op (some 34) (.move (.t 8)) 0
  (.op (some 35) (.fieldAddr 0 (.t 3)) 0
  (.op (some 36) (.load none (.t 35)) 8
  (.op (some 37) (.fieldAddr 1 (.t 7)) 0
  (.op (some 38) (.load none (.t 37)) 32
  (.op (some 39) (.move (.t 8)) 0
  (.op (some 40) (.idxAddr 2 (.t 38) (.t 39)) 224
  (.op (some 41) (.load (some 2) (.t 40)) 480
  (.op (some 42) (.load (some 2) (.t 3)) 0
  (.op (some 43) (.load (some 2) (.t 5)) 0
  (.op (some 44) (.move (.t 8)) 0
  (.op (some 45) (.call 98 [(.t 42), (.t 43), (.t 44)]) 7168
  (.op (some 46) (.callv (.t 36) [(.t 41), (.t 45)]) 16376
  (.op (some 47) (.idxAddr 2 (.t 33) (.t 34)) 32767
  (.op none (.store 2 (.t 47) (.t 46)) 65535
  .nil)))))))))))))))))) true)))
 (.region (Nodes.flat none (.op (some 48) (.bin .add (.t 29) (.c (.int .i64 1))) 0
  (.op (some 29) (.move (.t 48)) 0
  .nil))) false)))))))
 (.seq (.region (Nodes.flat none (.op (some 49) (.load (some 2) (.t 7)) 0
  (.op none (.store 2 (.t 6) (.t 49)) 0
  .nil))) false)
 .ret)))))),
 [.cell (some 2) 6]⟩
theorem b45 : fnOf Go.Proofs.Tryz.prog (owOf []) 45 = some c45 := by kernel_rfl
def c53 : RFn := ⟨(.seq (.region (Nodes.flat none (.op (some 3) (.box (.t 0)) 0
  (.op (some 4) (.box (.t 1)) 0
  (.op (some 5) (.box (.t 2)) 0
  (.op (some 6) (.move (.c (.bool false))) 0
  .nil))))) false)
 (.seq (.seq (.region (Nodes.flat none (.op (some 8) (.fieldAddr 0 (.t 4)) 0
  (.op (some 9) (.load none (.t 8)) 0
  (.op (some 10) (.un .not (.t 9)) 0
  (.op (some 11) (.move (.t 10)) 0
  (.grd 11 false
  (.op (some 12) (.fieldAddr 0 (.t 5)) 0
  (.op (some 13) (.load none (.t 12)) 0
  (.op (some 14) (.un .not (.t 13)) 0
  .nil)))
  (.op (some 15) (.pick (.t 11) (.c (.bool true)) (.t 14)) 0
  .nil))))))) false)
 (.cond (.t 15)
 (.seq (.region (Nodes.flat none (.op (some 16) (.fieldAddr 0 (.t 4)) 0
  (.op (some 17) (.load none (.t 16)) 0
  (.op (some 18) (.un .not (.t 17)) 0
  (.op (some 6) (.move (.t 18)) 0
  .nil))))) false)
 .ret)
 .skip))
 (.seq (.seq (.region (Nodes.flat none (.op (some 19) (.fieldAddr 1 (.t 4)) 0
  (.op (some 20) (.load none (.t 19)) 0
  (.op (some 21) (.len false (.t 20)) 0
  (.op (some 22) (.fieldAddr 1 (.t 5)) 0
  (.op (some 23) (.load none (.t 22)) 0
  (.op (some 24) (.len false (.t 23)) 0
  (.op (some 25) (.mm true (.t 21) [(.t 24)]) 0
  (.op (some 26) (.move (.c (.int .i64 0))) 0
  .nil))))))))) false)
 (.block 0 (.loop (.seq (.region (Nodes.flat none (.op (some 27) (.bin .lss (.t 26) (.t 25)) 0
  .nil)) false)
 (.seq (.cond (.t 27)
 .skip
 (.exit 0))
 (.seq (.block 1 (.seq (.region (Nodes.flat none (.op (some 28) (.move (.t 26)) 0
  (.op (some 7) (.move (.t 28)) 0
  .nil))) false)
 (.seq (.region (Nodes.flat none (.op (some 29) (.fieldAddr 1 (.t 3)) 0
  (.op (some 30) (.load none (.t 29)) 1
  (.op (some 31) (.load (some 2) (.t 3)) 0
  (.op (some 32) (.load (some 2) (.t 4)) 0
  (.op (some 33) (.move (.t 7)) 0
  (.op (some 34) (.call 98 [(.t 31), (.t 32), (.t 33)]) 28
  (.op (some 35) (.load (some 2) (.t 3)) 0
  (.op (some 36) (.load (some 2) (.t 5)) 0
  (.op (some 37) (.move (.t 7)) 0
  (.op (some 38) (.call 98 [(.t 35), (.t 36), (.t 37)]) 508
  (.op (some 39) (.callv (.t 30) [(.t 34), (.t 38)]) 1023
  (.op (some 40) (.un .not (.t 39)) 2047
  .nil))))))))))))) true)
 (.cond (.t 40)
 (.seq (.region (Nodes.flat none (.op (some 6) (.move (.c (.bool false))) 0
  .nil)) false)
 .ret)
 .skip))))
 (.region (Nodes.flat none (.op (some 41) (.bin .add (.t 26) (.c (.int .i64 1))) 0
  (.op (some 26) (.move (.t 41)) 0
  .nil))) false)))))))
 (.seq (.region (Nodes.flat none (.op (some 6) (.move (.c (.bool true))) 0
  .nil)) false)
 .ret)))),
 [.tmp 6]⟩
theorem b53 : fnOf Go.Proofs.Tryz.prog (owOf []) 53 = some c53 := by kernel_rfl
def c60 : RFn := ⟨(.seq (.region (Nodes.flat none (.op (some 4) (.box (.t 0)) 0
  (.op (some 5) (.box (.t 1)) 0
  (.op (some 7) (.box (.t 3)) 0
  (.op (some 8) (.alloc (.agg [(.bool false), (.lit [])])) 0
  .nil))))) false)
 (.seq (.region (Nodes.flat none (.op (some 10) (.load (some 2) (.t 4)) 0
  (.op (some 11) (.load (some 2) (.t 5)) 0
  (.op (some 12) (.call 97 [(.t 10), (.t 11), (.c (.int .i64 0))]) 0
  (.op (some 9) (.alloc (.agg [(.bool false), (.lit [])])) 0
  (.op none (.store 2 (.t 9) (.t 12)) 0
  .nil)))))) false)
 (.seq (.seq (.region (Nodes.flat none (.op (some 13) (.move (.t 2)) 0
  (.op (some 14) (.bin .geq (.t 13) (.c (.int .i64 0))) 0
  (.op (some 15) (.move (.t 14)) 0
  (.grd 15 true
  (.op (some 16) (.move (.t 2)) 0
  (.op (some 17) (.fieldAddr 1 (.t 9)) 0
  (.op (some 18) (.load none (.t 17)) 0
  (.op (some 19) (.len false (.t 18)) 0
  (.op (some 20) (.bin .lss (.t 16) (.t 19)) 0
  .nil)))))
  (.op (some 21) (.pick (.t 15) (.t 20) (.c (.bool false))) 0
  .nil)))))) false)
 (.cond (.t 21)
 (.region (Nodes.flat none (.op (some 22) (.fieldAddr 1 (.t 9)) 0
  (.op (some 23) (.load none (.t 22)) 1
  (.op (some 24) (.move (.t 2)) 0
  (.op (some 25) (.load (some 2) (.t 4)) 0
  (.op (some 26) (.load (some 2) (.t 7)) 0
  (.op (some 27) (.call 112 [(.t 25), (.t 26)]) 24
  (.op (some 28) (.idxAddr 2 (.t 23) (.t 24)) 63
  (.op none (.store 2 (.t 28) (.t 27)) 127
  .nil))))))))) true)
 .skip))
 (.seq (.region (Nodes.flat none (.op (some 29) (.load (some 2) (.t 9)) 0
  (.op none (.store 2 (.t 8) (.t 29)) 0
  .nil))) false)
 .ret)))),
 [.cell (some 2) 8]⟩
theorem b60 : fnOf Go.Proofs.Tryz.prog (owOf []) 60 = some c60 := by kernel_rfl
def c97 : RFn := ⟨(.seq (.region (Nodes.flat none (.op (some 3) (.box (.t 0)) 0
  (.op (some 4) (.box (.t 1)) 0
  (.op (some 6) (.alloc (.agg [(.bool false), (.lit [])])) 0
  .nil)))) false)
 (.seq (.seq (.region (Nodes.flat none (.op (some 9) (.fieldAddr 0 (.t 4)) 0
  (.op (some 10) (.load none (.t 9)) 0
  (.op (some 11) (.un .not (.t 10)) 0
  .nil)))) false)
 (.cond (.t 11)
 (.seq (.region (Nodes.flat none (.op (some 12) (.build [(.bool false), (.lit [])] []) 0
  (.op none (.store 2 (.t 6) (.t 12)) 0
  .nil))) false)
 .ret)
 .skip))
 (.seq (.region (Nodes.flat none (.op (some 13) (.move (.t 2)) 0
  (.op (some 14) (.fieldAddr 1 (.t 4)) 0
  (.op (some 15) (.load none (.t 14)) 0
  (.op (some 16) (.len false (.t 15)) 0
  (.op (some 17) (.mm true (.t 13) [(.t 16)]) 0
  (.op (some 18) (.mkslice 2 (.agg [(.int .i64 0), (.int .i64 0)]) (.t 17)) 0
  (.op (some 19) (.build [(.bool false), (.lit [])] [(0, 1, (.c (.bool true))), (1, 1, (.t 18))]) 0
  (.op (some 7) (.alloc (.agg [(.bool false), (.lit [])])) 0
  (.op none (.store 2 (.t 7) (.t 19)) 0
  .nil)))))))))) false)
 (.seq (.seq (.region (Nodes.flat none (.op (some 20) (.fieldAddr 1 (.t 7)) 0
  (.op (some 21) (.load none (.t 20)) 0
  (.op (some 22) (.len false (.t 21)) 0
  (.op (some 23) (.move (.c (.int .i64 0))) 0
  .nil))))) false)
 (.block 0 (.loop (.seq (.region (Nodes.flat none (.op (some 24) (.bin .lss (.t 23) (.t 22)) 0
  .nil)) false)
 (.seq (.cond (.t 24)
 .skip
 (.exit 0))
 (.seq (.block 1 (.seq (.region (Nodes.flat none (.op (some 25) (.move (.t 23)) 0
  (.op (some 8) (.move (.t 25)) 0
  .nil))) false)
 (.region (Nodes.flat none (.op (some 26) (.fieldAddr 1 (.t 7)) 0
  (.op (some 27) (.load none (.t 26)) 1
  (.op (some 28) (.move (.t 8)) 0
  (.op (some 29) (.load (some 2) (.t 3)) 0
  (.op (some 30) (.load (some 2) (.t 4)) 0
  (.op (some 31) (.move (.t 8)) 0
  (.op (some 32) (.call 98 [(.t 29), (.t 30), (.t 31)]) 56
  (.op (some 33) (.idxAddr 2 (.t 27) (.t 28)) 127
  (.op none (.store 2 (.t 33) (.t 32)) 255
  .nil)))))))))) true)))
 (.region (Nodes.flat none (.op (some 34) (.bin .add (.t 23) (.c (.int .i64 1))) 0
  (.op (some 23) (.move (.t 34)) 0
  .nil))) false)))))))
 (.seq (.region (Nodes.flat none (.op (some 35) (.load (some 2) (.t 7)) 0
  (.op none (.store 2 (.t 6) (.t 35)) 0
  .nil))) false)
 .ret))))),
 [.cell (some 2) 6]⟩
theorem b97 : fnOf Go.Proofs.Tryz.prog (owOf []) 97 = some c97 := by kernel_rfl
def c98 : RFn := ⟨(.seq (.region (Nodes.flat none (.op (some 3) (.box (.t 0)) 0
  (.op (some 4) (.box (.t 1)) 0
  (.op (some 6) (.alloc (.agg [(.int .i64 0), (.int .i64 0)])) 0
  .nil)))) false)
 (.seq (.region (Nodes.flat none (.op (some 7) (.alloc (.agg [(.int .i64 0), (.int .i64 0)])) 0
  .nil)) false)
 (.seq (.seq (.region (Nodes.flat none (.op (some 8) (.fieldAddr 0 (.t 4)) 0
  (.op (some 9) (.load none (.t 8)) 0
  (.op (some 10) (.un .not (.t 9)) 0
  (.op (some 11) (.move (.t 10)) 0
  (.grd 11 false
  (.op (some 12) (.move (.t 2)) 0
  (.op (some 13) (.bin .lss (.t 12) (.c (.int .i64 0))) 0
  .nil))
  (.op (some 14) (.pick (.t 11) (.c (.bool true)) (.t 13)) 0
  (.op (some 15) (.move (.t 14)) 0
  (.grd 15 false
  (.op (some 16) (.move (.t 2)) 0
  (.op (some 17) (.fieldAddr 1 (.t 4)) 0
  (.op (some 18) (.load none (.t 17)) 0
  (.op (some 19) (.len false (.t 18)) 0
  (.op (some 20) (.bin .geq (.t 16) (.t 19)) 0
  .nil)))))
  (.op (some 21) (.pick (.t 15) (.c (.bool true)) (.t 20)) 0
  .nil)))))))))) false)
 (.cond (.t 21)
 (.seq (.region (Nodes.flat none (.op (some 22) (.load (some 2) (.t 7)) 0
  (.op none (.store 2 (.t 6) (.t 22)) 0
  .nil))) false)
 .ret)
 .skip))
 (.seq (.region (Nodes.flat none (.op (some 23) (.load (some 2) (.t 3)) 0
  (.op (some 24) (.fieldAddr 1 (.t 4)) 0
  (.op (some 25) (.load none (.t 24)) 2
  (.op (some 26) (.move (.t 2)) 0
  (.op (some 27) (.idxAddr 2 (.t 25) (.t 26)) 14
  (.op (some 28) (.load (some 2) (.t 27)) 30
  (.op (some 29) (.call 112 [(.t 23), (.t 28)]) 63
  (.op none (.store 2 (.t 6) (.t 29)) 127
  .nil))))))))) true)
 .ret)))),
 [.cell (some 2) 6]⟩
theorem b98 : fnOf Go.Proofs.Tryz.prog (owOf []) 98 = some c98 := by kernel_rfl
def c112 : RFn := ⟨(.seq (.region (Nodes.flat none (.op (some 2) (.box (.t 0)) 0
  (.op (some 3) (.box (.t 1)) 0
  (.op (some 4) (.alloc (.agg [(.int .i64 0), (.int .i64 0)])) 0
  .nil)))) false)
 (.seq (.region (Nodes.flat none (.op (some 5) (.alloc (.agg [(.int .i64 0), (.int .i64 0)])) 0
  .nil)) false)
 (.seq (.region (Nodes.flat none (.op (some 6) (.fieldAddr 0 (.t 2)) 0
  (.op (some 7) (.load none (.t 6)) 0
  (.op (some 8) (.load (some 2) (.t 3)) 0
  (.op (some 9) (.load (some 2) (.t 5)) 0
  (.op (some 10) (.callv (.t 7) [(.t 8), (.t 9)]) 0
  (.op none (.store 2 (.t 4) (.t 10)) 0
  .nil))))))) false)
 .ret))),
 [.cell (some 2) 4]⟩
theorem b112 : fnOf Go.Proofs.Tryz.prog (owOf []) 112 = some c112 := by kernel_rfl
end Go.Vm
end
section
/- Walks. -/
set_option maxRecDepth 100000
set_option linter.unusedSimpArgs false
set_option linter.unusedVariables false
namespace Go.Vm
open Go
section
variable {gl : Nat → Option PV}
set_option maxHeartbeats 4000000
theorem toV_zero : toV 0 0 = .bot := rfl
theorem V3.join_bot (a : V3) : a.join .bot = a := by cases a <;> rfl
theorem p_env_flats : Pure Go.Proofs.Tryz.prog gl 44 [] (.agg [.fn 95 [], .fn 96 []]) := by
  refine Pure.fn hmix b44 ?_
  repeat' first
    | with_reducible refine tr_seq ?_
    | ((with_reducible refine tr_region_f ?_ ?_); kernel_rfl)
    | with_reducible refine n_nil ?_
    | with_reducible refine seqQ_normal ?_
    | with_reducible refine seqQ_ret ?_
    | with_reducible refine blkQ_ret ?_
    | with_reducible refine tr_ret ?_
    | ((with_reducible apply n_val); rfl; rfl)
    | ((with_reducible apply n_new); rfl; (first | (simp only [hn0, hn1, hn2, hn3, hn4, hn5, List.length_cons, List.length_nil, Nat.reduceAdd, Nat.zero_add]; done) | (simp only [hn0, hn1, hn2, hn3, hn4, hn5, List.length_cons, List.length_nil, Nat.reduceAdd, Nat.zero_add]; rfl) | rfl); rfl)
    | ((with_reducible apply n_store); rfl; rfl; rfl; rfl; rfl)
    | ((with_reducible apply fnQ_told_ret); rfl)
    | ((with_reducible apply fnQ_ret_soft); rfl; rfl)
  rfl
theorem p_flat_join0 (k c : Int) : Pure Go.Proofs.Tryz.prog gl 95 [.agg [.int .i64 k, .int .i64 c], .agg [.int .i64 0, .int .i64 0]] (pv (toV k c)) := by
  have := p_flat_Join (gl := gl) k c 0 0
  rwa [toV_zero, V3.join_bot] at this
theorem p_envf_sane (k c : Int) : Pure Go.Proofs.Tryz.prog gl 112 [(.agg [.fn 95 [], .fn 96 []]), .agg [.int .i64 k, .int .i64 c]] (pv (toV k c)) := by
  refine Pure.fn hmix b112 ?_
  repeat' first
    | with_reducible refine tr_seq ?_
    | ((with_reducible refine tr_region_f ?_ ?_); kernel_rfl)
    | with_reducible refine n_nil ?_
    | with_reducible refine seqQ_normal ?_
    | with_reducible refine seqQ_ret ?_
    | with_reducible refine blkQ_ret ?_
    | with_reducible refine tr_ret ?_
    | ((with_reducible apply n_callv); rfl; rfl; rfl; exact p_flat_join0 ..)
    | ((with_reducible apply n_val); rfl; rfl)
    | ((with_reducible apply n_new); rfl; (first | (simp only [hn0, hn1, hn2, hn3, hn4, hn5, List.length_cons, List.length_nil, Nat.reduceAdd, Nat.zero_add]; done) | (simp only [hn0, hn1, hn2, hn3, hn4, hn5, List.length_cons, List.length_nil, Nat.reduceAdd, Nat.zero_add]; rfl) | rfl); rfl)
    | ((with_reducible apply n_store); rfl; rfl; rfl; rfl; rfl)
    | ((with_reducible apply fnQ_told_ret); rfl)
    | ((with_reducible apply fnQ_ret_soft); rfl; rfl)
  rfl
theorem p_envf_get (on : Bool) (l : List (Int × Int)) (i : Int) : Pure Go.Proofs.Tryz.prog gl 98 [(.agg [.fn 95 [], .fn 96 []]), eIn pq on l, .int .i64 i] (pv (eGet .bot (eAbs fq on l) i)) := by
  rw [eAbs_get (g := fq) (a := (0, 0)) toV_zero]
  refine Pure.fn hmix b98 ?_
  repeat' first
    | with_reducible refine tr_seq ?_
    | ((with_reducible refine tr_region_f ?_ ?_); kernel_rfl)
    | ((with_reducible refine tr_region_t ?_ ?_ ?_); kernel_rfl; kernel_rfl)
    | with_reducible refine n_nil ?_
    | exact ⟨rfl, rfl⟩
    | with_reducible refine seqQ_normal ?_
    | with_reducible refine seqQ_ret ?_
    | with_reducible refine blkQ_ret ?_
    | with_reducible refine tr_skip ?_
    | with_reducible refine tr_ret ?_
    | ((with_reducible apply tr_cond_e); rfl)
    | with_reducible refine condT_t ?_
    | with_reducible refine condT_f ?_
    | ((with_reducible apply n_and); rfl; rfl; intro h)
    | ((with_reducible apply n_or); rfl; rfl; intro h)
    | (first | ((with_reducible apply n_bin); rfl; rfl; focus ((with_reducible (first | apply b_add | apply b_sub)) <;> first | omega | (simp only [decide_eq_true_eq, decide_eq_false_iff_not, Bool.or_eq_false_iff, Bool.not_eq_true', Bool.not_eq_false', Bool.not_true, Bool.not_false, ints_length, List.length_map, tab_length] at *; omega))) | ((with_reducible apply n_max); rfl; rfl) | ((with_reducible apply n_min); rfl; rfl))
    | ((with_reducible apply n_idx_vals ((0, 0) : Int × Int)); rfl; rfl; exact (fun _ => rfl); (first | omega | (simp only [decide_eq_true_eq, decide_eq_false_iff_not, Bool.or_eq_false_iff, Bool.not_eq_true', Bool.not_eq_false', Bool.not_true, Bool.not_false, ints_length, List.length_map, tab_length] at *; omega)))
    | ((with_reducible apply n_val); rfl; rfl)
    | ((with_reducible apply n_new); rfl; (first | (simp only [hn0, hn1, hn2, hn3, hn4, hn5, List.length_cons, List.length_nil, Nat.reduceAdd, Nat.zero_add]; done) | (simp only [hn0, hn1, hn2, hn3, hn4, hn5, List.length_cons, List.length_nil, Nat.reduceAdd, Nat.zero_add]; rfl) | rfl); rfl)
    | ((with_reducible apply n_store); rfl; rfl; rfl; rfl; rfl)
    | ((with_reducible apply n_call (f := 112)); rfl; rfl; exact p_envf_sane ..)
    | (with_reducible refine condT_split (fun h => ?_) (fun h => ?_))
    | ((with_reducible apply fnQ_told_ret); rfl)
    | ((with_reducible apply fnQ_ret_soft); rfl; rfl)
  all_goals (simp only [Bool.or_eq_true, Bool.not_eq_true', decide_eq_true_eq, Bool.or_eq_false_iff, Bool.not_eq_false', decide_eq_false_iff_not, List.length_map] at *)
  · rw [if_neg (by rintro ⟨h1, h2, h3⟩; rcases h with (h | h) | h; (simp [h] at h1); omega; omega)]; rfl
  · rw [if_pos (by refine ⟨h.1.1, ?_, ?_⟩ <;> omega)]
    all_goals rfl
theorem p_flat_JoinV (v w : V3) : Pure Go.Proofs.Tryz.prog gl 95 [pv v, pv w] (pv (v.join w)) := by
  have := p_flat_Join (gl := gl) v.k v.c w.k w.c
  rwa [toV_kc, toV_kc] at this
theorem p_flat_LeqV (v w : V3) : Pure Go.Proofs.Tryz.prog gl 96 [pv v, pv w] (.bool (v.leq w)) := by
  have := p_flat_Leq (gl := gl) v.k v.c w.k w.c
  rwa [toV_kc, toV_kc] at this
theorem eGet_on {l : List (Int × Int)} (k : Nat) : eGet .bot (eAbs fq true l) (k : Int) = (l.map fq).getD k .bot := by simp [eGet, eAbs, eV]
theorem f_envf_own (l : List (Int × Int)) (n : Int) (N : Nat) (hN : max n (l.length : Nat) = (N : Nat)) (hb : N ≤ 1000) (R : List V3) (hR : R = tab N fun k => (l.map fq).getD k .bot) : Fresh Go.Proofs.Tryz.prog gl 97 [(.agg [.fn 95 [], .fn 96 []]), eIn pq true l, .int .i64 n] (.agg [.bool true, .ref 3 0 0 N]) (Hp.ofL [none, none, none, some ⟨0, 2, R.map pv⟩]) := by
  have hRl : R.length = N := by rw [hR]; exact tab_length
  have hO : R.length = (List.replicate N V3.bot).length := by rw [hRl]; simp
  have hg : ∀ k : Nat, k < N → pv (eGet .bot (eAbs fq true l) (k : Int)) = pv (R.getD k .bot) := fun k hk => by rw [eGet_on, hR, tab_getD hk]
  refine Fresh.fnL hmix b97 ?_
  repeat' first
    | with_reducible refine tr_seq ?_
    | ((with_reducible refine tr_region_f ?_ ?_); kernel_rfl)
    | ((with_reducible refine tr_region_t ?_ ?_ ?_); kernel_rfl; kernel_rfl)
    | with_reducible refine n_nil ?_
    | with_reducible refine seqQ_normal ?_
    | with_reducible refine seqQ_exit ?_
    | with_reducible refine seqQ_ret ?_
    | with_reducible refine blkQ_normal ?_
    | with_reducible refine blkQ_exit ?_
    | with_reducible refine blkQ_ret ?_
    | ((with_reducible refine blkQ_exit_ne ?_ ?_); rfl)
    | with_reducible refine tr_block ?_
    | with_reducible refine tr_skip ?_
    | with_reducible refine tr_exit ?_
    | with_reducible refine tr_ret ?_
    | ((with_reducible apply tr_cond_e); rfl)
    | with_reducible refine condT_t ?_
    | with_reducible refine condT_f ?_
    | ((with_reducible refine condT_T ?_ ?_); decide +kernel)
    | ((with_reducible refine condT_F ?_ ?_); decide +kernel)
    | ((with_reducible apply n_andF); rfl; rfl; decide +kernel)
    | ((with_reducible apply n_orT); rfl; rfl; decide +kernel)
    | with_reducible refine loopV_exit ?_
    | with_reducible refine loopV_ret ?_
    | with_reducible refine unrQ_normal ?_
    | with_reducible refine unrQ_exit ?_
    | with_reducible refine unrQ_ret ?_
    | ((with_reducible apply n_max_to (c := (N : Int))); rfl; rfl; (rw [List.length_map]; exact hN))
    | ((with_reducible apply n_mk_vals (f := pv) V3.bot); rfl; rfl; rfl; rfl; omega)
    | (first | ((with_reducible apply n_bin); rfl; rfl; focus ((with_reducible (first | apply b_add | apply b_sub)) <;> first | omega | (simp only [decide_eq_true_eq, decide_eq_false_iff_not, Bool.or_eq_false_iff, Bool.not_eq_true', Bool.not_eq_false', Bool.not_true, Bool.not_false, ints_length, List.length_map, tab_length] at *; omega))) | ((with_reducible apply n_max); rfl; rfl) | ((with_reducible apply n_min); rfl; rfl))
    | ((with_reducible apply n_idx_own); rfl; rfl; rfl; (first | omega | (simp only [decide_eq_true_eq, decide_eq_false_iff_not, Bool.or_eq_false_iff, Bool.not_eq_true', Bool.not_eq_false', Bool.not_true, Bool.not_false, ints_length, List.length_map, tab_length] at *; omega)))
    | ((with_reducible apply n_store_vals (f := pv) (R.getD k .bot)); rfl; rfl; rfl; exact hg _ (by first | omega | (simp only [decide_eq_true_eq, decide_eq_false_iff_not, Bool.or_eq_false_iff, Bool.not_eq_true', Bool.not_eq_false', Bool.not_true, Bool.not_false, ints_length, List.length_map, tab_length] at *; omega)); exact (fun _ => rfl); (rw [mixL_length hO, List.length_replicate]; first | omega | (simp only [decide_eq_true_eq, decide_eq_false_iff_not, Bool.or_eq_false_iff, Bool.not_eq_true', Bool.not_eq_false', Bool.not_true, Bool.not_false, ints_length, List.length_map, tab_length] at *; omega)))
    | (refine tr_loop_v (α := Nat) 5 (fun | k => [(23, some (.int .i64 (k : Int))), (24, none), (25, none), (8, none), (26, none), (27, none), (28, none), (29, none), (30, none), (31, none), (32, none), (33, none), (34, none)]) (fun | k => [some ⟨0, 2, [(.agg [.fn 95 [], .fn 96 []])]⟩, some ⟨0, 2, [eIn pq true l]⟩, some ⟨0, 2, [.agg [.bool false, .lit []]]⟩, some ⟨0, 2, (mixL R (List.replicate N V3.bot) k).map pv⟩, some ⟨0, 2, [.agg [.bool true, .ref 3 0 0 N]]⟩]) (fun | k => k ≤ N) (fun | k => N - k) (0) (ks := [23, 24, 25, 8, 26, 27, 28, 29, 30, 31, 32, 33, 34]) (fun _ => rfl) (fun _ => rfl) rfl (by omega) ?_ ⟨⟨_, rfl, rfl⟩, trivial⟩ ⟨⟨_, rfl, rfl, rfl, (by first | exact fzP_vals (fun _ => rfl) (mixL_set hO (by first | omega | (simp only [decide_eq_true_eq, decide_eq_false_iff_not, Bool.or_eq_false_iff, Bool.not_eq_true', Bool.not_eq_false', Bool.not_true, Bool.not_false, ints_length, List.length_map, tab_length] at *; omega)) .bot) |  rfl | exact fzP_pure (ints_pure _) | exact fzP_pure (u64s_pure _) | exact fzP_pure (by assumption) | exact fzP_pure (by first | (simp [pureE, pure1, ints]; done) | (simp_all [pe_int, pe_bool, pe_str, pe_sl, pe_agg, p1_int, p1_bool, p1_str, p1_sl]; done)))⟩, ⟨_, rfl, rfl, rfl, (by first | exact fzP_vals (fun _ => rfl) (mixL_set hO (by first | omega | (simp only [decide_eq_true_eq, decide_eq_false_iff_not, Bool.or_eq_false_iff, Bool.not_eq_true', Bool.not_eq_false', Bool.not_true, Bool.not_false, ints_length, List.length_map, tab_length] at *; omega)) .bot) |  rfl | exact fzP_pure (ints_pure _) | exact fzP_pure (u64s_pure _) | exact fzP_pure (by assumption) | exact fzP_pure (by first | (simp [pureE, pure1, ints]; done) | (simp_all [pe_int, pe_bool, pe_str, pe_sl, pe_agg, p1_int, p1_bool, p1_str, p1_sl]; done)))⟩, ⟨_, rfl, rfl, rfl, (by first | exact fzP_vals (fun _ => rfl) (mixL_set hO (by first | omega | (simp only [decide_eq_true_eq, decide_eq_false_iff_not, Bool.or_eq_false_iff, Bool.not_eq_true', Bool.not_eq_false', Bool.not_true, Bool.not_false, ints_length, List.length_map, tab_length] at *; omega)) .bot) |  rfl | exact fzP_pure (ints_pure _) | exact fzP_pure (u64s_pure _) | exact fzP_pure (by assumption) | exact fzP_pure (by first | (simp [pureE, pure1, ints]; done) | (simp_all [pe_int, pe_bool, pe_str, pe_sl, pe_agg, p1_int, p1_bool, p1_str, p1_sl]; done)))⟩, ⟨_, rfl, rfl, rfl, (by first | exact fzP_vals (fun _ => rfl) (mixL_set hO (by first | omega | (simp only [decide_eq_true_eq, decide_eq_false_iff_not, Bool.or_eq_false_iff, Bool.not_eq_true', Bool.not_eq_false', Bool.not_true, Bool.not_false, ints_length, List.length_map, tab_length] at *; omega)) .bot) |  rfl | exact fzP_pure (ints_pure _) | exact fzP_pure (u64s_pure _) | exact fzP_pure (by assumption) | exact fzP_pure (by first | (simp [pureE, pure1, ints]; done) | (simp_all [pe_int, pe_bool, pe_str, pe_sl, pe_agg, p1_int, p1_bool, p1_str, p1_sl]; done)))⟩, ⟨_, rfl, rfl, rfl, (by first | exact fzP_vals (fun _ => rfl) (mixL_set hO (by first | omega | (simp only [decide_eq_true_eq, decide_eq_false_iff_not, Bool.or_eq_false_iff, Bool.not_eq_true', Bool.not_eq_false', Bool.not_true, Bool.not_false, ints_length, List.length_map, tab_length] at *; omega)) .bot) |  rfl | exact fzP_pure (ints_pure _) | exact fzP_pure (u64s_pure _) | exact fzP_pure (by assumption) | exact fzP_pure (by first | (simp [pureE, pure1, ints]; done) | (simp_all [pe_int, pe_bool, pe_str, pe_sl, pe_agg, p1_int, p1_bool, p1_str, p1_sl]; done)))⟩, trivial⟩ ?_; rotate_left; rintro k hx; try dsimp only at hx)
    | ((first | (refine loopV_normal ((k + 1)) ?_ ⟨⟨_, rfl, rfl⟩, trivial⟩ ⟨⟨_, rfl, rfl, rfl, (by first | exact fzP_vals (fun _ => rfl) (mixL_set hO (by first | omega | (simp only [decide_eq_true_eq, decide_eq_false_iff_not, Bool.or_eq_false_iff, Bool.not_eq_true', Bool.not_eq_false', Bool.not_true, Bool.not_false, ints_length, List.length_map, tab_length] at *; omega)) .bot) |  rfl | exact fzP_pure (ints_pure _) | exact fzP_pure (u64s_pure _) | exact fzP_pure (by assumption) | exact fzP_pure (by first | (simp [pureE, pure1, ints]; done) | (simp_all [pe_int, pe_bool, pe_str, pe_sl, pe_agg, p1_int, p1_bool, p1_str, p1_sl]; done)))⟩, ⟨_, rfl, rfl, rfl, (by first | exact fzP_vals (fun _ => rfl) (mixL_set hO (by first | omega | (simp only [decide_eq_true_eq, decide_eq_false_iff_not, Bool.or_eq_false_iff, Bool.not_eq_true', Bool.not_eq_false', Bool.not_true, Bool.not_false, ints_length, List.length_map, tab_length] at *; omega)) .bot) |  rfl | exact fzP_pure (ints_pure _) | exact fzP_pure (u64s_pure _) | exact fzP_pure (by assumption) | exact fzP_pure (by first | (simp [pureE, pure1, ints]; done) | (simp_all [pe_int, pe_bool, pe_str, pe_sl, pe_agg, p1_int, p1_bool, p1_str, p1_sl]; done)))⟩, ⟨_, rfl, rfl, rfl, (by first | exact fzP_vals (fun _ => rfl) (mixL_set hO (by first | omega | (simp only [decide_eq_true_eq, decide_eq_false_iff_not, Bool.or_eq_false_iff, Bool.not_eq_true', Bool.not_eq_false', Bool.not_true, Bool.not_false, ints_length, List.length_map, tab_length] at *; omega)) .bot) |  rfl | exact fzP_pure (ints_pure _) | exact fzP_pure (u64s_pure _) | exact fzP_pure (by assumption) | exact fzP_pure (by first | (simp [pureE, pure1, ints]; done) | (simp_all [pe_int, pe_bool, pe_str, pe_sl, pe_agg, p1_int, p1_bool, p1_str, p1_sl]; done)))⟩, ⟨_, rfl, rfl, rfl, (by first | exact fzP_vals (fun _ => rfl) (mixL_set hO (by first | omega | (simp only [decide_eq_true_eq, decide_eq_false_iff_not, Bool.or_eq_false_iff, Bool.not_eq_true', Bool.not_eq_false', Bool.not_true, Bool.not_false, ints_length, List.length_map, tab_length] at *; omega)) .bot) |  rfl | exact fzP_pure (ints_pure _) | exact fzP_pure (u64s_pure _) | exact fzP_pure (by assumption) | exact fzP_pure (by first | (simp [pureE, pure1, ints]; done) | (simp_all [pe_int, pe_bool, pe_str, pe_sl, pe_agg, p1_int, p1_bool, p1_str, p1_sl]; done)))⟩, ⟨_, rfl, rfl, rfl, (by first | exact fzP_vals (fun _ => rfl) (mixL_set hO (by first | omega | (simp only [decide_eq_true_eq, decide_eq_false_iff_not, Bool.or_eq_false_iff, Bool.not_eq_true', Bool.not_eq_false', Bool.not_true, Bool.not_false, ints_length, List.length_map, tab_length] at *; omega)) .bot) |  rfl | exact fzP_pure (ints_pure _) | exact fzP_pure (u64s_pure _) | exact fzP_pure (by assumption) | exact fzP_pure (by first | (simp [pureE, pure1, ints]; done) | (simp_all [pe_int, pe_bool, pe_str, pe_sl, pe_agg, p1_int, p1_bool, p1_str, p1_sl]; done)))⟩, trivial⟩ ?_ ?_)); repeat (first | exact only_refl | refine only_put rfl ?_ | refine only_less rfl ?_ | refine only_ov rfl ?_))
    | ((with_reducible apply n_val); rfl; rfl)
    | ((with_reducible apply n_new); rfl; (first | (simp only [hn0, hn1, hn2, hn3, hn4, hn5, List.length_cons, List.length_nil, Nat.reduceAdd, Nat.zero_add]; done) | (simp only [hn0, hn1, hn2, hn3, hn4, hn5, List.length_cons, List.length_nil, Nat.reduceAdd, Nat.zero_add]; rfl) | rfl); rfl)
    | ((with_reducible apply n_store); rfl; rfl; rfl; rfl; rfl)
    | ((with_reducible apply n_call (f := 98)); rfl; rfl; exact p_envf_get ..)
    | (with_reducible refine condT_split (fun h => ?_) (fun h => ?_))
    | ((with_reducible apply fnQ_told_ret); rfl)
    | ((with_reducible apply fnQ_ret_soft); rfl; rfl)
  all_goals (try dsimp only at *)
  all_goals (try simp only [decide_eq_true_eq, decide_eq_false_iff_not] at *)
  · omega
  · omega
  · rfl
  · rw [mixL_full (by simp; omega) (by omega)]
    exact ⟨⟨_, rfl, rfl, rfl, fzP_vals (fun _ => rfl) rfl⟩, trivial⟩
  · omega
theorem p_envf_own_off (l : List (Int × Int)) (n : Int) : Pure Go.Proofs.Tryz.prog gl 97 [(.agg [.fn 95 [], .fn 96 []]), eIn pq false l, .int .i64 n] (.agg [.bool false, .sl []]) := by
  refine Pure.fn hmix b97 ?_
  repeat' first
    | with_reducible refine tr_seq ?_
    | ((with_reducible refine tr_region_f ?_ ?_); kernel_rfl)
    | ((with_reducible refine tr_region_t ?_ ?_ ?_); kernel_rfl; kernel_rfl)
    | with_reducible refine n_nil ?_
    | with_reducible refine seqQ_normal ?_
    | with_reducible refine seqQ_exit ?_
    | with_reducible refine seqQ_ret ?_
    | with_reducible refine blkQ_normal ?_
    | with_reducible refine blkQ_exit ?_
    | with_reducible refine blkQ_ret ?_
    | ((with_reducible refine blkQ_exit_ne ?_ ?_); rfl)
    | with_reducible refine tr_block ?_
    | with_reducible refine tr_skip ?_
    | with_reducible refine tr_exit ?_
    | with_reducible refine tr_ret ?_
    | ((with_reducible apply tr_cond_e); rfl)
    | with_reducible refine condT_t ?_
    | with_reducible refine condT_f ?_
    | ((with_reducible refine condT_T ?_ ?_); decide +kernel)
    | ((with_reducible refine condT_F ?_ ?_); decide +kernel)
    | ((with_reducible apply n_andF); rfl; rfl; decide +kernel)
    | ((with_reducible apply n_orT); rfl; rfl; decide +kernel)
    | with_reducible refine loopV_exit ?_
    | with_reducible refine loopV_ret ?_
    | with_reducible refine unrQ_normal ?_
    | with_reducible refine unrQ_exit ?_
    | with_reducible refine unrQ_ret ?_
    | ((with_reducible apply n_val); rfl; rfl)
    | ((with_reducible apply n_new); rfl; (first | (simp only [hn0, hn1, hn2, hn3, hn4, hn5, List.length_cons, List.length_nil, Nat.reduceAdd, Nat.zero_add]; done) | (simp only [hn0, hn1, hn2, hn3, hn4, hn5, List.length_cons, List.length_nil, Nat.reduceAdd, Nat.zero_add]; rfl) | rfl); rfl)
    | ((with_reducible apply n_store); rfl; rfl; rfl; rfl; rfl)
    | (with_reducible refine condT_split (fun h => ?_) (fun h => ?_))
    | ((with_reducible apply fnQ_told_ret); rfl)
    | ((with_reducible apply fnQ_ret_soft); rfl; rfl)
  rfl
theorem f_envf_own0 (l : List (Int × Int)) (hb : l.length ≤ 1000) : Fresh Go.Proofs.Tryz.prog gl 97 [(.agg [.fn 95 [], .fn 96 []]), eIn pq true l, .int .i64 0] (.agg [.bool true, .ref 3 0 0 l.length]) (Hp.ofL [none, none, none, some ⟨0, 2, (l.map fq).map pv⟩]) :=
  f_envf_own l 0 l.length (by omega) hb _ (by have := tab_of (l.map fq) V3.bot; rw [List.length_map] at this; exact this.symm)
theorem p_envf_own (on : Bool) (l : List (Int × Int)) (hb : l.length ≤ 1000) : Pure Go.Proofs.Tryz.prog gl 97 [(.agg [.fn 95 [], .fn 96 []]), eIn pq on l, .int .i64 0] (eOut pv (eAbs fq on l)) := by
  cases on with
  | false => exact p_envf_own_off l 0
  | true => exact (f_envf_own0 l hb).pure (soft_env (xs := l.map fq) (f := pv) rfl (fun _ => rfl) (List.length_map ..).symm)
theorem p_envf_set (on : Bool) (l : List (Int × Int)) (i k c : Int) (hb : l.length ≤ 1000) : Pure Go.Proofs.Tryz.prog gl 60 [(.agg [.fn 95 [], .fn 96 []]), eIn pq on l, .int .i64 i, .agg [.int .i64 k, .int .i64 c]] (eOut pv (eSet (eAbs fq on l) i (toV k c))) := by
  cases on with
  | false =>
    refine Pure.fn hmix b60 ?_
    repeat' first
      | with_reducible refine tr_seq ?_
      | ((with_reducible refine tr_region_f ?_ ?_); kernel_rfl)
      | ((with_reducible refine tr_region_t ?_ ?_ ?_); kernel_rfl; kernel_rfl)
      | with_reducible refine n_nil ?_
      | exact ⟨rfl, rfl⟩
      | with_reducible refine seqQ_normal ?_
      | with_reducible refine seqQ_ret ?_
      | with_reducible refine blkQ_ret ?_
      | with_reducible refine tr_skip ?_
      | with_reducible refine tr_ret ?_
      | ((with_reducible apply tr_cond_e); rfl)
      | with_reducible refine condT_t ?_
      | with_reducible refine condT_f ?_
      | ((with_reducible apply n_and); rfl; rfl; intro h)
      | ((with_reducible apply n_or); rfl; rfl; intro h)
      | ((with_reducible apply n_val); rfl; rfl)
      | ((with_reducible apply n_new); rfl; (first | (simp only [hn0, hn1, hn2, hn3, hn4, hn5, List.length_cons, List.length_nil, Nat.reduceAdd, Nat.zero_add]; done) | (simp only [hn0, hn1, hn2, hn3, hn4, hn5, List.length_cons, List.length_nil, Nat.reduceAdd, Nat.zero_add]; rfl) | rfl); rfl)
      | ((with_reducible apply n_store); rfl; rfl; rfl; rfl; rfl)
      | ((with_reducible apply n_call (f := 97)); rfl; rfl; exact p_envf_own_off ..)
      | (with_reducible refine condT_split (fun h => ?_) (fun h => ?_))
      | ((with_reducible apply fnQ_told_ret); rfl)
      | ((with_reducible apply fnQ_ret_soft); rfl; rfl)
    · exfalso
      simp only [Bool.and_eq_true, decide_eq_true_eq, List.length_nil] at h
      omega
    · rfl
  | true =>
    refine Pure.fn hmix b60 ?_
    repeat' first
      | with_reducible refine tr_seq ?_
      | ((with_reducible refine tr_region_f ?_ ?_); kernel_rfl)
      | ((with_reducible refine tr_region_t ?_ ?_ ?_); kernel_rfl; kernel_rfl)
      | with_reducible refine n_nil ?_
      | exact ⟨rfl, rfl⟩
      | with_reducible refine seqQ_normal ?_
      | with_reducible refine seqQ_ret ?_
      | with_reducible refine blkQ_ret ?_
      | with_reducible refine tr_skip ?_
      | with_reducible refine tr_ret ?_
      | ((with_reducible apply tr_cond_e); rfl)
      | with_reducible refine condT_t ?_
      | with_reducible refine condT_f ?_
      | ((with_reducible apply n_and); rfl; rfl; intro h)
      | ((with_reducible apply n_or); rfl; rfl; intro h)
      | ((with_reducible apply n_idx_own); rfl; rfl; rfl; (simp only [Bool.and_eq_true, decide_eq_true_eq] at h; exact ⟨h.1, h.2⟩))
      | ((with_reducible apply n_store_vals (f := pv) (toV k c)); rfl; rfl; rfl; rfl; exact (fun _ => rfl); (simp only [Bool.and_eq_true, decide_eq_true_eq, List.length_map] at *; omega))
      | ((with_reducible apply fnQ_ret_env (f := pv)); rfl; rfl; exact (fun _ => rfl); exact (by simp))
      | ((with_reducible apply n_val); rfl; rfl)
      | ((with_reducible apply n_new); rfl; (first | (simp only [hn0, hn1, hn2, hn3, hn4, hn5, List.length_cons, List.length_nil, Nat.reduceAdd, Nat.zero_add]; done) | (simp only [hn0, hn1, hn2, hn3, hn4, hn5, List.length_cons, List.length_nil, Nat.reduceAdd, Nat.zero_add]; rfl) | rfl); rfl)
      | ((with_reducible apply n_store); rfl; rfl; rfl; rfl; rfl)
      | ((with_reducible apply n_freshL (f := 97)); (first | (simp only [hn0, hn1, hn2, hn3, hn4, hn5, List.length_cons, List.length_nil, Nat.reduceAdd, Nat.zero_add]; done) | (simp only [hn0, hn1, hn2, hn3, hn4, hn5, List.length_cons, List.length_nil, Nat.reduceAdd, Nat.zero_add]; rfl) | rfl); rfl; rfl; exact f_envf_own0 l hb; rfl; (repeat (first | exact ShL.nil | apply ShL.none | (apply ShL.some; (first | rfl | exact shiftPs_pure (u64s_pure _) | exact shiftPs_pure (ints_pure _) | exact shiftPs_pure (vals_pure (fun _ => rfl) _))))))
      | ((with_reducible apply n_call (f := 112)); rfl; rfl; exact p_envf_sane ..)
      | (with_reducible refine condT_split (fun h => ?_) (fun h => ?_))
      | ((with_reducible apply fnQ_told_ret); rfl)
      | ((with_reducible apply fnQ_ret_soft); rfl; rfl)
    all_goals (simp only [Bool.and_eq_true, decide_eq_true_eq, Bool.and_eq_false_iff, decide_eq_false_iff_not] at h)
    · rw [eAbs_on, eSet, Option.map_some, if_pos (by omega)]
      rfl
    · have e : eSet (eAbs fq true l) i (toV k c) = some (l.map fq) := by
        rw [eAbs_on, eSet, Option.map_some]
        congr 1
        split
        · rw [List.set_eq_of_length_le (by rw [List.length_map]; omega)]
        · rfl
      rw [e]
      rfl
theorem eJoin_on (l m : List (Int × Int)) : eJoin .bot V3.join (eAbs fq true l) (eAbs fq true m) = some (tab (max l.length m.length) fun k => ((l.map fq).getD k .bot).join ((m.map fq).getD k .bot)) := by
  simp [eAbs, eJoin]
theorem p_envf_joined (oa ob : Bool) (l m : List (Int × Int)) (hl : l.length ≤ 1000) (hm : m.length ≤ 1000) : Pure Go.Proofs.Tryz.prog gl 45 [(.agg [.fn 95 [], .fn 96 []]), eIn pq oa l, eIn pq ob m] (eOut pv (eJoin .bot V3.join (eAbs fq oa l) (eAbs fq ob m))) := by
  cases oa with
  | false =>
    refine Pure.fn hmix b45 ?_
    repeat' first
      | with_reducible refine tr_seq ?_
      | ((with_reducible refine tr_region_f ?_ ?_); kernel_rfl)
      | ((with_reducible refine tr_region_t ?_ ?_ ?_); kernel_rfl; kernel_rfl)
      | with_reducible refine n_nil ?_
      | with_reducible refine seqQ_normal ?_
      | with_reducible refine seqQ_exit ?_
      | with_reducible refine seqQ_ret ?_
      | with_reducible refine blkQ_normal ?_
      | with_reducible refine blkQ_exit ?_
      | with_reducible refine blkQ_ret ?_
      | ((with_reducible refine blkQ_exit_ne ?_ ?_); rfl)
      | with_reducible refine tr_block ?_
      | with_reducible refine tr_skip ?_
      | with_reducible refine tr_exit ?_
      | with_reducible refine tr_ret ?_
      | ((with_reducible apply tr_cond_e); rfl)
      | with_reducible refine condT_t ?_
      | with_reducible refine condT_f ?_
      | ((with_reducible refine condT_T ?_ ?_); decide +kernel)
      | ((with_reducible refine condT_F ?_ ?_); decide +kernel)
      | ((with_reducible apply n_andF); rfl; rfl; decide +kernel)
      | ((with_reducible apply n_orT); rfl; rfl; decide +kernel)
      | with_reducible refine loopV_exit ?_
      | with_reducible refine loopV_ret ?_
      | with_reducible refine unrQ_normal ?_
      | with_reducible refine unrQ_exit ?_
      | with_reducible refine unrQ_ret ?_
      | ((with_reducible apply n_val); rfl; rfl)
      | ((with_reducible apply n_new); rfl; (first | (simp only [hn0, hn1, hn2, hn3, hn4, hn5, List.length_cons, List.length_nil, Nat.reduceAdd, Nat.zero_add]; done) | (simp only [hn0, hn1, hn2, hn3, hn4, hn5, List.length_cons, List.length_nil, Nat.reduceAdd, Nat.zero_add]; rfl) | rfl); rfl)
      | ((with_reducible apply n_store); rfl; rfl; rfl; rfl; rfl)
      | ((with_reducible apply n_call (f := 97)); rfl; rfl; exact p_envf_own ob m hm)
      | (with_reducible refine condT_split (fun h => ?_) (fun h => ?_))
      | ((with_reducible apply fnQ_told_ret); rfl)
      | ((with_reducible apply fnQ_ret_soft); rfl; rfl)
    cases ob <;> rfl
  | true =>
  cases ob with
  | false =>
    refine Pure.fn hmix b45 ?_
    repeat' first
      | with_reducible refine tr_seq ?_
      | ((with_reducible refine tr_region_f ?_ ?_); kernel_rfl)
      | ((with_reducible refine tr_region_t ?_ ?_ ?_); kernel_rfl; kernel_rfl)
      | with_reducible refine n_nil ?_
      | with_reducible refine seqQ_normal ?_
      | with_reducible refine seqQ_exit ?_
      | with_reducible refine seqQ_ret ?_
      | with_reducible refine blkQ_normal ?_
      | with_reducible refine blkQ_exit ?_
      | with_reducible refine blkQ_ret ?_
      | ((with_reducible refine blkQ_exit_ne ?_ ?_); rfl)
      | with_reducible refine tr_block ?_
      | with_reducible refine tr_skip ?_
      | with_reducible refine tr_exit ?_
      | with_reducible refine tr_ret ?_
      | ((with_reducible apply tr_cond_e); rfl)
      | with_reducible refine condT_t ?_
      | with_reducible refine condT_f ?_
      | ((with_reducible refine condT_T ?_ ?_); decide +kernel)
      | ((with_reducible refine condT_F ?_ ?_); decide +kernel)
      | ((with_reducible apply n_andF); rfl; rfl; decide +kernel)
      | ((with_reducible apply n_orT); rfl; rfl; decide +kernel)
      | with_reducible refine loopV_exit ?_
      | with_reducible refine loopV_ret ?_
      | with_reducible refine unrQ_normal ?_
      | with_reducible refine unrQ_exit ?_
      | with_reducible refine unrQ_ret ?_
      | ((with_reducible apply n_val); rfl; rfl)
      | ((with_reducible apply n_new); rfl; (first | (simp only [hn0, hn1, hn2, hn3, hn4, hn5, List.length_cons, List.length_nil, Nat.reduceAdd, Nat.zero_add]; done) | (simp only [hn0, hn1, hn2, hn3, hn4, hn5, List.length_cons, List.length_nil, Nat.reduceAdd, Nat.zero_add]; rfl) | rfl); rfl)
      | ((with_reducible apply n_store); rfl; rfl; rfl; rfl; rfl)
      | ((with_reducible apply n_call (f := 97)); rfl; rfl; exact p_envf_own true l hl)
      | (with_reducible refine condT_split (fun h => ?_) (fun h => ?_))
      | ((with_reducible apply fnQ_told_ret); rfl)
      | ((with_reducible apply fnQ_ret_soft); rfl; rfl)
    rfl
  | true =>
    rw [eJoin_on]
    obtain ⟨N, hN⟩ : ∃ N, N = max l.length m.length := ⟨_, rfl⟩
    rw [← hN]
    obtain ⟨O, hO⟩ : ∃ O, O = tab N fun k => (l.map fq).getD k .bot := ⟨_, rfl⟩
    obtain ⟨R, hR⟩ : ∃ R, R = tab N fun k => ((l.map fq).getD k .bot).join ((m.map fq).getD k .bot) := ⟨_, rfl⟩
    rw [← hR]
    have hOl : O.length = N := by rw [hO]; exact tab_length
    have hRl : R.length = N := by rw [hR]; exact tab_length
    have hRO : R.length = O.length := by rw [hOl, hRl]
    have hg : ∀ k : Nat, k < N → pv (((mixL R O k).getD k .bot).join (eGet .bot (eAbs fq true m) (k : Int))) = pv (R.getD k .bot) := fun k hk => by
      rw [eGet_on, hR, tab_getD hk, ← hR, mixL_getD hRO (by omega), hO, tab_getD hk]
    have hown := f_envf_own (gl := gl) l (m.length : Nat) N (by omega) (by omega) O hO
    refine Pure.fn hmix b45 ?_
    repeat' first
      | with_reducible refine tr_seq ?_
      | ((with_reducible refine tr_region_f ?_ ?_); kernel_rfl)
      | ((with_reducible refine tr_region_t ?_ ?_ ?_); kernel_rfl; kernel_rfl)
      | with_reducible refine n_nil ?_
      | with_reducible refine seqQ_normal ?_
      | with_reducible refine seqQ_exit ?_
      | with_reducible refine seqQ_ret ?_
      | with_reducible refine blkQ_normal ?_
      | with_reducible refine blkQ_exit ?_
      | with_reducible refine blkQ_ret ?_
      | ((with_reducible refine blkQ_exit_ne ?_ ?_); rfl)
      | with_reducible refine tr_block ?_
      | with_reducible refine tr_skip ?_
      | with_reducible refine tr_exit ?_
      | with_reducible refine tr_ret ?_
      | ((with_reducible apply tr_cond_e); rfl)
      | with_reducible refine condT_t ?_
      | with_reducible refine condT_f ?_
      | ((with_reducible refine condT_T ?_ ?_); decide +kernel)
      | ((with_reducible refine condT_F ?_ ?_); decide +kernel)
      | ((with_reducible apply n_andF); rfl; rfl; decide +kernel)
      | ((with_reducible apply n_orT); rfl; rfl; decide +kernel)
      | with_reducible refine loopV_exit ?_
      | with_reducible refine loopV_ret ?_
      | with_reducible refine unrQ_normal ?_
      | with_reducible refine unrQ_exit ?_
      | with_reducible refine unrQ_ret ?_
      | ((with_reducible apply n_freshL (f := 97)); rfl; rfl; rfl; (rw [List.length_map]; exact hown); rfl; (repeat (first | exact ShL.nil | apply ShL.none | (apply ShL.some; exact shiftPs_pure (vals_pure (fun _ => rfl) _)))))
      | (first | ((with_reducible apply n_bin); rfl; rfl; focus ((with_reducible (first | apply b_add | apply b_sub)) <;> first | omega | (simp only [decide_eq_true_eq, decide_eq_false_iff_not, Bool.or_eq_false_iff, Bool.not_eq_true', Bool.not_eq_false', Bool.not_true, Bool.not_false, ints_length, List.length_map, tab_length] at *; omega))) | ((with_reducible apply n_max); rfl; rfl) | ((with_reducible apply n_min); rfl; rfl))
      | ((with_reducible apply n_idx_own); rfl; rfl; rfl; (first | omega | (simp only [decide_eq_true_eq, decide_eq_false_iff_not, Bool.or_eq_false_iff, Bool.not_eq_true', Bool.not_eq_false', Bool.not_true, Bool.not_false, ints_length, List.length_map, tab_length] at *; omega)))
      | ((with_reducible apply n_load_vals (f := pv) V3.bot); rfl; rfl; rfl; (rw [mixL_length hRO]; first | omega | (simp only [decide_eq_true_eq, decide_eq_false_iff_not, Bool.or_eq_false_iff, Bool.not_eq_true', Bool.not_eq_false', Bool.not_true, Bool.not_false, ints_length, List.length_map, tab_length] at *; omega)))
      | ((with_reducible apply n_callv); rfl; rfl; rfl; exact p_flat_JoinV ..)
      | ((with_reducible apply n_store_vals (f := pv) (R.getD k .bot)); rfl; rfl; rfl; exact hg _ (by first | omega | (simp only [decide_eq_true_eq, decide_eq_false_iff_not, Bool.or_eq_false_iff, Bool.not_eq_true', Bool.not_eq_false', Bool.not_true, Bool.not_false, ints_length, List.length_map, tab_length] at *; omega)); exact (fun _ => rfl); (rw [mixL_length hRO]; first | omega | (simp only [decide_eq_true_eq, decide_eq_false_iff_not, Bool.or_eq_false_iff, Bool.not_eq_true', Bool.not_eq_false', Bool.not_true, Bool.not_false, ints_length, List.length_map, tab_length] at *; omega)))
      | ((with_reducible apply fnQ_ret_env (f := pv)); rfl; rfl; exact (fun _ => rfl); (rw [mixL_length hRO, hOl]))
      | (refine tr_loop_v (α := Nat) 9 (fun | k => [(29, some (.int .i64 (k : Int))), (30, none), (31, none), (8, none), (32, none), (33, none), (34, none), (35, none), (36, none), (37, none), (38, none), (39, none), (40, none), (41, none), (42, none), (43, none), (44, none), (45, none), (46, none), (47, none), (48, none)]) (fun | k => [some ⟨0, 2, [(.agg [.fn 95 [], .fn 96 []])]⟩, some ⟨0, 2, [eIn pq true l]⟩, some ⟨0, 2, [eIn pq true m]⟩, some ⟨0, 2, [.agg [.bool false, .lit []]]⟩, none, none, none, some ⟨0, 2, (mixL R O k).map pv⟩, some ⟨0, 2, [.agg [.bool true, .ref 7 0 0 N]]⟩]) (fun | k => k ≤ N) (fun | k => N - k) (0) (ks := [29, 30, 31, 8, 32, 33, 34, 35, 36, 37, 38, 39, 40, 41, 42, 43, 44, 45, 46, 47, 48]) (fun _ => rfl) (fun _ => rfl) rfl (by omega) ?_ ⟨⟨_, rfl, rfl⟩, trivial⟩ ⟨⟨_, rfl, rfl, rfl, (by first | exact fzP_vals (fun _ => rfl) (mixL_set hRO (by first | omega | (simp only [decide_eq_true_eq, decide_eq_false_iff_not, Bool.or_eq_false_iff, Bool.not_eq_true', Bool.not_eq_false', Bool.not_true, Bool.not_false, ints_length, List.length_map, tab_length] at *; omega)) .bot) |  rfl | exact fzP_pure (ints_pure _) | exact fzP_pure (u64s_pure _) | exact fzP_pure (by assumption) | exact fzP_pure (by first | (simp [pureE, pure1, ints]; done) | (simp_all [pe_int, pe_bool, pe_str, pe_sl, pe_agg, p1_int, p1_bool, p1_str, p1_sl]; done)))⟩, ⟨_, rfl, rfl, rfl, (by first | exact fzP_vals (fun _ => rfl) (mixL_set hRO (by first | omega | (simp only [decide_eq_true_eq, decide_eq_false_iff_not, Bool.or_eq_false_iff, Bool.not_eq_true', Bool.not_eq_false', Bool.not_true, Bool.not_false, ints_length, List.length_map, tab_length] at *; omega)) .bot) |  rfl | exact fzP_pure (ints_pure _) | exact fzP_pure (u64s_pure _) | exact fzP_pure (by assumption) | exact fzP_pure (by first | (simp [pureE, pure1, ints]; done) | (simp_all [pe_int, pe_bool, pe_str, pe_sl, pe_agg, p1_int, p1_bool, p1_str, p1_sl]; done)))⟩, ⟨_, rfl, rfl, rfl, (by first | exact fzP_vals (fun _ => rfl) (mixL_set hRO (by first | omega | (simp only [decide_eq_true_eq, decide_eq_false_iff_not, Bool.or_eq_false_iff, Bool.not_eq_true', Bool.not_eq_false', Bool.not_true, Bool.not_false, ints_length, List.length_map, tab_length] at *; omega)) .bot) |  rfl | exact fzP_pure (ints_pure _) | exact fzP_pure (u64s_pure _) | exact fzP_pure (by assumption) | exact fzP_pure (by first | (simp [pureE, pure1, ints]; done) | (simp_all [pe_int, pe_bool, pe_str, pe_sl, pe_agg, p1_int, p1_bool, p1_str, p1_sl]; done)))⟩, ⟨_, rfl, rfl, rfl, (by first | exact fzP_vals (fun _ => rfl) (mixL_set hRO (by first | omega | (simp only [decide_eq_true_eq, decide_eq_false_iff_not, Bool.or_eq_false_iff, Bool.not_eq_true', Bool.not_eq_false', Bool.not_true, Bool.not_false, ints_length, List.length_map, tab_length] at *; omega)) .bot) |  rfl | exact fzP_pure (ints_pure _) | exact fzP_pure (u64s_pure _) | exact fzP_pure (by assumption) | exact fzP_pure (by first | (simp [pureE, pure1, ints]; done) | (simp_all [pe_int, pe_bool, pe_str, pe_sl, pe_agg, p1_int, p1_bool, p1_str, p1_sl]; done)))⟩, ⟨_, rfl, rfl, rfl, (by first | exact fzP_vals (fun _ => rfl) (mixL_set hRO (by first | omega | (simp only [decide_eq_true_eq, decide_eq_false_iff_not, Bool.or_eq_false_iff, Bool.not_eq_true', Bool.not_eq_false', Bool.not_true, Bool.not_false, ints_length, List.length_map, tab_length] at *; omega)) .bot) |  rfl | exact fzP_pure (ints_pure _) | exact fzP_pure (u64s_pure _) | exact fzP_pure (by assumption) | exact fzP_pure (by first | (simp [pureE, pure1, ints]; done) | (simp_all [pe_int, pe_bool, pe_str, pe_sl, pe_agg, p1_int, p1_bool, p1_str, p1_sl]; done)))⟩, ⟨_, rfl, rfl, rfl, (by first | exact fzP_vals (fun _ => rfl) (mixL_set hRO (by first | omega | (simp only [decide_eq_true_eq, decide_eq_false_iff_not, Bool.or_eq_false_iff, Bool.not_eq_true', Bool.not_eq_false', Bool.not_true, Bool.not_false, ints_length, List.length_map, tab_length] at *; omega)) .bot) |  rfl | exact fzP_pure (ints_pure _) | exact fzP_pure (u64s_pure _) | exact fzP_pure (by assumption) | exact fzP_pure (by first | (simp [pureE, pure1, ints]; done) | (simp_all [pe_int, pe_bool, pe_str, pe_sl, pe_agg, p1_int, p1_bool, p1_str, p1_sl]; done)))⟩, trivial⟩ ?_; rotate_left; rintro k hx; try dsimp only at hx)
      | ((first | (refine loopV_normal ((k + 1)) ?_ ⟨⟨_, rfl, rfl⟩, trivial⟩ ⟨⟨_, rfl, rfl, rfl, (by first | exact fzP_vals (fun _ => rfl) (mixL_set hRO (by first | omega | (simp only [decide_eq_true_eq, decide_eq_false_iff_not, Bool.or_eq_false_iff, Bool.not_eq_true', Bool.not_eq_false', Bool.not_true, Bool.not_false, ints_length, List.length_map, tab_length] at *; omega)) .bot) |  rfl | exact fzP_pure (ints_pure _) | exact fzP_pure (u64s_pure _) | exact fzP_pure (by assumption) | exact fzP_pure (by first | (simp [pureE, pure1, ints]; done) | (simp_all [pe_int, pe_bool, pe_str, pe_sl, pe_agg, p1_int, p1_bool, p1_str, p1_sl]; done)))⟩, ⟨_, rfl, rfl, rfl, (by first | exact fzP_vals (fun _ => rfl) (mixL_set hRO (by first | omega | (simp only [decide_eq_true_eq, decide_eq_false_iff_not, Bool.or_eq_false_iff, Bool.not_eq_true', Bool.not_eq_false', Bool.not_true, Bool.not_false, ints_length, List.length_map, tab_length] at *; omega)) .bot) |  rfl | exact fzP_pure (ints_pure _) | exact fzP_pure (u64s_pure _) | exact fzP_pure (by assumption) | exact fzP_pure (by first | (simp [pureE, pure1, ints]; done) | (simp_all [pe_int, pe_bool, pe_str, pe_sl, pe_agg, p1_int, p1_bool, p1_str, p1_sl]; done)))⟩, ⟨_, rfl, rfl, rfl, (by first | exact fzP_vals (fun _ => rfl) (mixL_set hRO (by first | omega | (simp only [decide_eq_true_eq, decide_eq_false_iff_not, Bool.or_eq_false_iff, Bool.not_eq_true', Bool.not_eq_false', Bool.not_true, Bool.not_false, ints_length, List.length_map, tab_length] at *; omega)) .bot) |  rfl | exact fzP_pure (ints_pure _) | exact fzP_pure (u64s_pure _) | exact fzP_pure (by assumption) | exact fzP_pure (by first | (simp [pureE, pure1, ints]; done) | (simp_all [pe_int, pe_bool, pe_str, pe_sl, pe_agg, p1_int, p1_bool, p1_str, p1_sl]; done)))⟩, ⟨_, rfl, rfl, rfl, (by first | exact fzP_vals (fun _ => rfl) (mixL_set hRO (by first | omega | (simp only [decide_eq_true_eq, decide_eq_false_iff_not, Bool.or_eq_false_iff, Bool.not_eq_true', Bool.not_eq_false', Bool.not_true, Bool.not_false, ints_length, List.length_map, tab_length] at *; omega)) .bot) |  rfl | exact fzP_pure (ints_pure _) | exact fzP_pure (u64s_pure _) | exact fzP_pure (by assumption) | exact fzP_pure (by first | (simp [pureE, pure1, ints]; done) | (simp_all [pe_int, pe_bool, pe_str, pe_sl, pe_agg, p1_int, p1_bool, p1_str, p1_sl]; done)))⟩, ⟨_, rfl, rfl, rfl, (by first | exact fzP_vals (fun _ => rfl) (mixL_set hRO (by first | omega | (simp only [decide_eq_true_eq, decide_eq_false_iff_not, Bool.or_eq_false_iff, Bool.not_eq_true', Bool.not_eq_false', Bool.not_true, Bool.not_false, ints_length, List.length_map, tab_length] at *; omega)) .bot) |  rfl | exact fzP_pure (ints_pure _) | exact fzP_pure (u64s_pure _) | exact fzP_pure (by assumption) | exact fzP_pure (by first | (simp [pureE, pure1, ints]; done) | (simp_all [pe_int, pe_bool, pe_str, pe_sl, pe_agg, p1_int, p1_bool, p1_str, p1_sl]; done)))⟩, ⟨_, rfl, rfl, rfl, (by first | exact fzP_vals (fun _ => rfl) (mixL_set hRO (by first | omega | (simp only [decide_eq_true_eq, decide_eq_false_iff_not, Bool.or_eq_false_iff, Bool.not_eq_true', Bool.not_eq_false', Bool.not_true, Bool.not_false, ints_length, List.length_map, tab_length] at *; omega)) .bot) |  rfl | exact fzP_pure (ints_pure _) | exact fzP_pure (u64s_pure _) | exact fzP_pure (by assumption) | exact fzP_pure (by first | (simp [pureE, pure1, ints]; done) | (simp_all [pe_int, pe_bool, pe_str, pe_sl, pe_agg, p1_int, p1_bool, p1_str, p1_sl]; done)))⟩, trivial⟩ ?_ ?_)); repeat (first | exact only_refl | refine only_put rfl ?_ | refine only_less rfl ?_ | refine only_ov rfl ?_))
      | ((with_reducible apply n_val); rfl; rfl)
      | ((with_reducible apply n_new); rfl; (first | (simp only [hn0, hn1, hn2, hn3, hn4, hn5, List.length_cons, List.length_nil, Nat.reduceAdd, Nat.zero_add]; done) | (simp only [hn0, hn1, hn2, hn3, hn4, hn5, List.length_cons, List.length_nil, Nat.reduceAdd, Nat.zero_add]; rfl) | rfl); rfl)
      | ((with_reducible apply n_store); rfl; rfl; rfl; rfl; rfl)
      | ((with_reducible apply n_call (f := 98)); rfl; rfl; exact p_envf_get ..)
      | (with_reducible refine condT_split (fun h => ?_) (fun h => ?_))
      | ((with_reducible apply fnQ_told_ret); rfl)
      | ((with_reducible apply fnQ_ret_soft); rfl; rfl)
    all_goals (try dsimp only at *)
    all_goals (try simp only [decide_eq_true_eq, decide_eq_false_iff_not] at *)
    · omega
    · omega
    · rw [mixL_full (by omega) (by omega)]
      rfl
    · omega
theorem p_envf_below (oa ob : Bool) (l m : List (Int × Int)) (hl : l.length ≤ 1000) (hm : m.length ≤ 1000) : Pure Go.Proofs.Tryz.prog gl 53 [(.agg [.fn 95 [], .fn 96 []]), eIn pq oa l, eIn pq ob m] (.bool (eLeq .bot V3.leq (eAbs fq oa l) (eAbs fq ob m))) := by
  cases oa with
  | false =>
    refine Pure.fn hmix b53 ?_
    repeat' first
      | with_reducible refine tr_seq ?_
      | ((with_reducible refine tr_region_f ?_ ?_); kernel_rfl)
      | ((with_reducible refine tr_region_t ?_ ?_ ?_); kernel_rfl; kernel_rfl)
      | with_reducible refine n_nil ?_
      | exact ⟨rfl, rfl⟩
      | with_reducible refine seqQ_normal ?_
      | with_reducible refine seqQ_exit ?_
      | with_reducible refine seqQ_ret ?_
      | with_reducible refine blkQ_normal ?_
      | with_reducible refine blkQ_exit ?_
      | with_reducible refine blkQ_ret ?_
      | ((with_reducible refine blkQ_exit_ne ?_ ?_); rfl)
      | with_reducible refine tr_block ?_
      | with_reducible refine tr_skip ?_
      | with_reducible refine tr_exit ?_
      | with_reducible refine tr_ret ?_
      | ((with_reducible apply tr_cond_e); rfl)
      | with_reducible refine condT_t ?_
      | with_reducible refine condT_f ?_
      | ((with_reducible refine condT_T ?_ ?_); decide +kernel)
      | ((with_reducible refine condT_F ?_ ?_); decide +kernel)
      | ((with_reducible apply n_andF); rfl; rfl; decide +kernel)
      | ((with_reducible apply n_orT); rfl; rfl; decide +kernel)
      | ((with_reducible apply n_and); rfl; rfl; intro h)
      | ((with_reducible apply n_or); rfl; rfl; intro h)
      | with_reducible refine loopV_exit ?_
      | with_reducible refine loopV_ret ?_
      | with_reducible refine unrQ_normal ?_
      | with_reducible refine unrQ_exit ?_
      | with_reducible refine unrQ_ret ?_
      | ((with_reducible apply n_val); rfl; rfl)
      | ((with_reducible apply n_new); rfl; (first | (simp only [hn0, hn1, hn2, hn3, hn4, hn5, List.length_cons, List.length_nil, Nat.reduceAdd, Nat.zero_add]; done) | (simp only [hn0, hn1, hn2, hn3, hn4, hn5, List.length_cons, List.length_nil, Nat.reduceAdd, Nat.zero_add]; rfl) | rfl); rfl)
      | (with_reducible refine condT_split (fun h => ?_) (fun h => ?_))
      | ((with_reducible apply fnQ_told_ret); rfl)
      | ((with_reducible apply fnQ_ret_soft); rfl; rfl)
    all_goals rfl
  | true =>
  cases ob with
  | false =>
    refine Pure.fn hmix b53 ?_
    repeat' first
      | with_reducible refine tr_seq ?_
      | ((with_reducible refine tr_region_f ?_ ?_); kernel_rfl)
      | ((with_reducible refine tr_region_t ?_ ?_ ?_); kernel_rfl; kernel_rfl)
      | with_reducible refine n_nil ?_
      | exact ⟨rfl, rfl⟩
      | with_reducible refine seqQ_normal ?_
      | with_reducible refine seqQ_exit ?_
      | with_reducible refine seqQ_ret ?_
      | with_reducible refine blkQ_normal ?_
      | with_reducible refine blkQ_exit ?_
      | with_reducible refine blkQ_ret ?_
      | ((with_reducible refine blkQ_exit_ne ?_ ?_); rfl)
      | with_reducible refine tr_block ?_
      | with_reducible refine tr_skip ?_
      | with_reducible refine tr_exit ?_
      | with_reducible refine tr_ret ?_
      | ((with_reducible apply tr_cond_e); rfl)
      | with_reducible refine condT_t ?_
      | with_reducible refine condT_f ?_
      | ((with_reducible refine condT_T ?_ ?_); decide +kernel)
      | ((with_reducible refine condT_F ?_ ?_); decide +kernel)
      | ((with_reducible apply n_andF); rfl; rfl; decide +kernel)
      | ((with_reducible apply n_orT); rfl; rfl; decide +kernel)
      | ((with_reducible apply n_and); rfl; rfl; intro h)
      | ((with_reducible apply n_or); rfl; rfl; intro h)
      | with_reducible refine loopV_exit ?_
      | with_reducible refine loopV_ret ?_
      | with_reducible refine unrQ_normal ?_
      | with_reducible refine unrQ_exit ?_
      | with_reducible refine unrQ_ret ?_
      | ((with_reducible apply n_val); rfl; rfl)
      | ((with_reducible apply n_new); rfl; (first | (simp only [hn0, hn1, hn2, hn3, hn4, hn5, List.length_cons, List.length_nil, Nat.reduceAdd, Nat.zero_add]; done) | (simp only [hn0, hn1, hn2, hn3, hn4, hn5, List.length_cons, List.length_nil, Nat.reduceAdd, Nat.zero_add]; rfl) | rfl); rfl)
      | (with_reducible refine condT_split (fun h => ?_) (fun h => ?_))
      | ((with_reducible apply fnQ_told_ret); rfl)
      | ((with_reducible apply fnQ_ret_soft); rfl; rfl)
    all_goals rfl
  | true =>
    obtain ⟨N, hN⟩ : ∃ N, N = max l.length m.length := ⟨_, rfl⟩
    have e : eLeq .bot V3.leq (eAbs fq true l) (eAbs fq true m) = (List.range N).all fun k => ((l.map fq).getD k .bot).leq ((m.map fq).getD k .bot) := by
      rw [hN]; simp [eAbs, eLeq]
    rw [e]
    refine Pure.fn hmix b53 ?_
    repeat' first
      | with_reducible refine tr_seq ?_
      | ((with_reducible refine tr_region_f ?_ ?_); kernel_rfl)
      | ((with_reducible refine tr_region_t ?_ ?_ ?_); kernel_rfl; kernel_rfl)
      | with_reducible refine n_nil ?_
      | exact ⟨rfl, rfl⟩
      | with_reducible refine seqQ_normal ?_
      | with_reducible refine seqQ_exit ?_
      | with_reducible refine seqQ_ret ?_
      | with_reducible refine blkQ_normal ?_
      | with_reducible refine blkQ_exit ?_
      | with_reducible refine blkQ_ret ?_
      | ((with_reducible refine blkQ_exit_ne ?_ ?_); rfl)
      | with_reducible refine tr_block ?_
      | with_reducible refine tr_skip ?_
      | with_reducible refine tr_exit ?_
      | with_reducible refine tr_ret ?_
      | ((with_reducible apply tr_cond_e); rfl)
      | with_reducible refine condT_t ?_
      | with_reducible refine condT_f ?_
      | ((with_reducible refine condT_T ?_ ?_); decide +kernel)
      | ((with_reducible refine condT_F ?_ ?_); decide +kernel)
      | ((with_reducible apply n_andF); rfl; rfl; decide +kernel)
      | ((with_reducible apply n_orT); rfl; rfl; decide +kernel)
      | ((with_reducible apply n_and); rfl; rfl; intro h)
      | ((with_reducible apply n_or); rfl; rfl; intro h)
      | with_reducible refine loopV_exit ?_
      | with_reducible refine loopV_ret ?_
      | with_reducible refine unrQ_normal ?_
      | with_reducible refine unrQ_exit ?_
      | with_reducible refine unrQ_ret ?_
      | ((with_reducible apply n_max_to (c := (N : Int))); rfl; rfl; (rw [List.length_map, List.length_map]; omega))
      | (first | ((with_reducible apply n_bin); rfl; rfl; focus ((with_reducible (first | apply b_add | apply b_sub)) <;> first | omega | (simp only [decide_eq_true_eq, decide_eq_false_iff_not, Bool.or_eq_false_iff, Bool.not_eq_true', Bool.not_eq_false', Bool.not_true, Bool.not_false, ints_length, List.length_map, tab_length] at *; omega))) | ((with_reducible apply n_max); rfl; rfl) | ((with_reducible apply n_min); rfl; rfl))
      | ((with_reducible apply n_callv); rfl; rfl; rfl; exact p_flat_LeqV ..)
      | (refine tr_loop_v (α := Nat) 3 (fun | k => [(26, some (.int .i64 (k : Int))), (27, none), (28, none), (7, none), (29, none), (30, none), (31, none), (32, none), (33, none), (34, none), (35, none), (36, none), (37, none), (38, none), (39, none), (40, none), (6, none), (41, none)]) (fun | k => [some ⟨0, 2, [(.agg [.fn 95 [], .fn 96 []])]⟩, some ⟨0, 2, [eIn pq true l]⟩, some ⟨0, 2, [eIn pq true m]⟩]) (fun | k => k ≤ N ∧ ∀ j, j < k → ((l.map fq).getD j .bot).leq ((m.map fq).getD j .bot) = true) (fun | k => N - k) (0) (ks := [26, 27, 28, 7, 29, 30, 31, 32, 33, 34, 35, 36, 37, 38, 39, 40, 6, 41]) (fun _ => rfl) (fun _ => rfl) rfl (by omega) ?_ ⟨⟨_, rfl, rfl⟩, trivial⟩ ⟨⟨_, rfl, rfl, rfl, (by first |  rfl | exact fzP_pure (ints_pure _) | exact fzP_pure (u64s_pure _) | exact fzP_pure (by assumption) | exact fzP_pure (by first | (simp [pureE, pure1, ints]; done) | (simp_all [pe_int, pe_bool, pe_str, pe_sl, pe_agg, p1_int, p1_bool, p1_str, p1_sl]; done)))⟩, ⟨_, rfl, rfl, rfl, (by first |  rfl | exact fzP_pure (ints_pure _) | exact fzP_pure (u64s_pure _) | exact fzP_pure (by assumption) | exact fzP_pure (by first | (simp [pureE, pure1, ints]; done) | (simp_all [pe_int, pe_bool, pe_str, pe_sl, pe_agg, p1_int, p1_bool, p1_str, p1_sl]; done)))⟩, ⟨_, rfl, rfl, rfl, (by first |  rfl | exact fzP_pure (ints_pure _) | exact fzP_pure (u64s_pure _) | exact fzP_pure (by assumption) | exact fzP_pure (by first | (simp [pureE, pure1, ints]; done) | (simp_all [pe_int, pe_bool, pe_str, pe_sl, pe_agg, p1_int, p1_bool, p1_str, p1_sl]; done)))⟩, trivial⟩ ?_; rotate_left; rintro k hx; try dsimp only at hx)
      | ((first | (refine loopV_normal ((k + 1)) ?_ ⟨⟨_, rfl, rfl⟩, trivial⟩ ⟨⟨_, rfl, rfl, rfl, (by first |  rfl | exact fzP_pure (ints_pure _) | exact fzP_pure (u64s_pure _) | exact fzP_pure (by assumption) | exact fzP_pure (by first | (simp [pureE, pure1, ints]; done) | (simp_all [pe_int, pe_bool, pe_str, pe_sl, pe_agg, p1_int, p1_bool, p1_str, p1_sl]; done)))⟩, ⟨_, rfl, rfl, rfl, (by first |  rfl | exact fzP_pure (ints_pure _) | exact fzP_pure (u64s_pure _) | exact fzP_pure (by assumption) | exact fzP_pure (by first | (simp [pureE, pure1, ints]; done) | (simp_all [pe_int, pe_bool, pe_str, pe_sl, pe_agg, p1_int, p1_bool, p1_str, p1_sl]; done)))⟩, ⟨_, rfl, rfl, rfl, (by first |  rfl | exact fzP_pure (ints_pure _) | exact fzP_pure (u64s_pure _) | exact fzP_pure (by assumption) | exact fzP_pure (by first | (simp [pureE, pure1, ints]; done) | (simp_all [pe_int, pe_bool, pe_str, pe_sl, pe_agg, p1_int, p1_bool, p1_str, p1_sl]; done)))⟩, trivial⟩ ?_ ?_)); repeat (first | exact only_refl | refine only_put rfl ?_ | refine only_less rfl ?_ | refine only_ov rfl ?_))
      | ((with_reducible apply n_val); rfl; rfl)
      | ((with_reducible apply n_new); rfl; (first | (simp only [hn0, hn1, hn2, hn3, hn4, hn5, List.length_cons, List.length_nil, Nat.reduceAdd, Nat.zero_add]; done) | (simp only [hn0, hn1, hn2, hn3, hn4, hn5, List.length_cons, List.length_nil, Nat.reduceAdd, Nat.zero_add]; rfl) | rfl); rfl)
      | ((with_reducible apply n_call (f := 98)); rfl; rfl; exact p_envf_get ..)
      | (with_reducible refine condT_split (fun h => ?_) (fun h => ?_))
      | ((with_reducible apply fnQ_told_ret); rfl)
      | ((with_reducible apply fnQ_ret_soft); rfl; rfl)
    all_goals (try dsimp only at *)
    all_goals (try simp only [decide_eq_true_eq, decide_eq_false_iff_not, Bool.not_eq_true', Bool.not_eq_false', eGet_on] at *)
    · refine congrArg PV.bool (Eq.symm ?_)
      rw [List.all_eq_false]
      exact ⟨k, List.mem_range.2 (by omega), by rw [h]; simp⟩
    · omega
    · refine ⟨by omega, fun j hj => ?_⟩
      by_cases e : j = k
      · subst e; assumption
      · exact hx.2 j (by omega)
    · rw [List.all_eq_true.2 (fun j hj => hx.2 j (by have := List.mem_range.1 hj; omega))]
    · exact ⟨by omega, fun j hj => absurd hj (by omega)⟩
end
end Go.Vm
end
