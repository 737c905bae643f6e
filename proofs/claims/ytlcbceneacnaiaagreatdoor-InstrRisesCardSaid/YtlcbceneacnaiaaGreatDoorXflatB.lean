/- Laid. -/
import Derived.Test.YtlcbceneacnaiaaGreatDoorVmThree
import Derived.KernelRfl
import Derived.Test.YtlcbceneacnaiaaGreatDoorProg
import Derived.Test.YtlcbceneacnaiaaGreatDoorXbase
import Derived.Test.YtlcbceneacnaiaaGreatDoorLAll
section
/- Code. -/
set_option maxRecDepth 100000
set_option linter.unusedSimpArgs false
set_option linter.unusedVariables false
namespace Go.Vm
open Go
def c62 : RFn := ⟨(.seq (.region (Nodes.flat none (.op (some 2) (.alloc (.agg [(.int .i64 0), (.int .i64 0)])) 0
  .nil)) false)
 (.seq (.region (Nodes.flat none (.op (some 3) (.move (.t 0)) 0
  (.op (some 4) (.call 113 [(.t 3)]) 0
  (.op (some 5) (.build [(.int .i64 0), (.int .i64 0)] [(0, 1, (.c (.int .i64 1))), (1, 1, (.t 4))]) 0
  (.op none (.store 2 (.t 2) (.t 5)) 0
  .nil))))) false)
 .ret)),
 [.cell (some 2) 2]⟩
theorem b62 : fnOf Go.Proofs.Tryz.prog (owOf []) 62 = some c62 := by kernel_rfl
def c63 : RFn := ⟨(.seq (.region (Nodes.flat none (.op (some 1) (.box (.t 0)) 0
  (.op (some 2) (.alloc (.agg [(.int .i64 0), (.int .i64 0)])) 0
  .nil))) false)
 (.seq (.region (Nodes.flat none (.op (some 3) (.call 62 [(.c (.int .i64 0))]) 0
  (.op (some 4) (.load (some 2) (.t 1)) 0
  (.op (some 5) (.call 65 [(.t 3), (.t 4)]) 3
  (.op none (.store 2 (.t 2) (.t 5)) 7
  .nil))))) true)
 .ret)),
 [.cell (some 2) 2]⟩
theorem b63 : fnOf Go.Proofs.Tryz.prog (owOf []) 63 = some c63 := by kernel_rfl
def c64 : RFn := ⟨(.seq (.region (Nodes.flat none (.op (some 2) (.box (.t 0)) 0
  (.op (some 3) (.box (.t 1)) 0
  (.op (some 4) (.alloc (.agg [(.int .i64 0), (.int .i64 0)])) 0
  .nil)))) false)
 (.seq (.region (Nodes.flat none (.op (some 5) (.load (some 2) (.t 2)) 0
  (.op (some 6) (.load (some 2) (.t 3)) 0
  (.op (some 7) (.call 114 [(.t 5), (.t 6), (.c (.fn 115 []))]) 0
  (.op none (.store 2 (.t 4) (.t 7)) 0
  .nil))))) false)
 .ret)),
 [.cell (some 2) 4]⟩
theorem b64 : fnOf Go.Proofs.Tryz.prog (owOf []) 64 = some c64 := by kernel_rfl
def c65 : RFn := ⟨(.seq (.region (Nodes.flat none (.op (some 2) (.box (.t 0)) 0
  (.op (some 3) (.box (.t 1)) 0
  (.op (some 4) (.alloc (.agg [(.int .i64 0), (.int .i64 0)])) 0
  .nil)))) false)
 (.seq (.region (Nodes.flat none (.op (some 5) (.load (some 2) (.t 2)) 0
  (.op (some 6) (.load (some 2) (.t 3)) 0
  (.op (some 7) (.call 114 [(.t 5), (.t 6), (.c (.fn 116 []))]) 0
  (.op none (.store 2 (.t 4) (.t 7)) 0
  .nil))))) false)
 .ret)),
 [.cell (some 2) 4]⟩
theorem b65 : fnOf Go.Proofs.Tryz.prog (owOf []) 65 = some c65 := by kernel_rfl
def c66 : RFn := ⟨(.seq (.region (Nodes.flat none (.op (some 2) (.box (.t 0)) 0
  (.op (some 3) (.box (.t 1)) 0
  (.op (some 4) (.alloc (.agg [(.int .i64 0), (.int .i64 0)])) 0
  .nil)))) false)
 (.seq (.region (Nodes.flat none (.op (some 5) (.load (some 2) (.t 2)) 0
  (.op (some 6) (.load (some 2) (.t 3)) 0
  (.op (some 7) (.call 114 [(.t 5), (.t 6), (.c (.fn 117 []))]) 0
  (.op none (.store 2 (.t 4) (.t 7)) 0
  .nil))))) false)
 .ret)),
 [.cell (some 2) 4]⟩
theorem b66 : fnOf Go.Proofs.Tryz.prog (owOf []) 66 = some c66 := by kernel_rfl
def c95 : RFn := ⟨(.seq (.region (Nodes.flat none (.op (some 2) (.box (.t 0)) 0
  (.op (some 3) (.box (.t 1)) 0
  (.op (some 4) (.alloc (.agg [(.int .i64 0), (.int .i64 0)])) 0
  .nil)))) false)
 (.seq (.region (Nodes.flat none (.op (some 5) (.load (some 2) (.t 2)) 0
  (.op (some 6) (.call 134 [(.t 5)]) 1
  (.op (some 7) (.load (some 2) (.t 3)) 0
  (.op (some 8) (.call 134 [(.t 7)]) 7
  (.op none (.store 2 (.t 2) (.t 6)) 15
  (.op none (.store 2 (.t 3) (.t 8)) 31
  .nil))))))) true)
 (.seq (.block 0 (.seq (.region (Nodes.flat none (.op (some 10) (.fieldAddr 0 (.t 2)) 0
  (.op (some 11) (.load none (.t 10)) 0
  (.op (some 12) (.bin .eql (.t 11) (.c (.int .i64 0))) 0
  (.op (some 13) (.move (.t 12)) 0
  (.grd 13 false
  (.op (some 14) (.load (some 2) (.t 2)) 0
  (.op (some 15) (.load (some 2) (.t 3)) 0
  (.op (some 16) (.eqs false [(0, 1), (1, 1)] (.t 14) (.t 15)) 0
  .nil)))
  (.op (some 17) (.pick (.t 13) (.c (.bool true)) (.t 16)) 0
  (.op (some 9) (.move (.t 17)) 0
  .nil)))))))) false)
 (.cond (.t 9)
 (.seq (.region (Nodes.flat none (.op (some 18) (.load (some 2) (.t 3)) 0
  (.op none (.store 2 (.t 4) (.t 18)) 0
  .nil))) false)
 .ret)
 (.seq (.region (Nodes.flat none (.op (some 20) (.fieldAddr 0 (.t 3)) 0
  (.op (some 21) (.load none (.t 20)) 0
  (.op (some 22) (.bin .eql (.t 21) (.c (.int .i64 0))) 0
  (.op (some 19) (.move (.t 22)) 0
  .nil))))) false)
 (.cond (.t 19)
 (.seq (.region (Nodes.flat none (.op (some 23) (.load (some 2) (.t 2)) 0
  (.op none (.store 2 (.t 4) (.t 23)) 0
  .nil))) false)
 .ret)
 .skip)))))
 (.seq (.region (Nodes.flat none (.op (some 24) (.build [(.int .i64 0), (.int .i64 0)] [(0, 1, (.c (.int .i64 2)))]) 0
  (.op none (.store 2 (.t 4) (.t 24)) 0
  .nil))) false)
 .ret)))),
 [.cell (some 2) 4]⟩
theorem b95 : fnOf Go.Proofs.Tryz.prog (owOf []) 95 = some c95 := by kernel_rfl
def c96 : RFn := ⟨(.seq (.region (Nodes.flat none (.op (some 2) (.box (.t 0)) 0
  (.op (some 3) (.box (.t 1)) 0
  (.op (some 4) (.move (.c (.bool false))) 0
  .nil)))) false)
 (.seq (.region (Nodes.flat none (.op (some 5) (.load (some 2) (.t 2)) 0
  (.op (some 6) (.load (some 2) (.t 3)) 0
  (.op (some 7) (.call 95 [(.t 5), (.t 6)]) 3
  (.op (some 8) (.load (some 2) (.t 3)) 0
  (.op (some 9) (.call 134 [(.t 8)]) 15
  (.op (some 10) (.eqs false [(0, 1), (1, 1)] (.t 7) (.t 9)) 31
  (.op (some 4) (.move (.t 10)) 63
  .nil)))))))) true)
 .ret)),
 [.tmp 4]⟩
theorem b96 : fnOf Go.Proofs.Tryz.prog (owOf []) 96 = some c96 := by kernel_rfl
def c113 : RFn := ⟨(.seq (.region (Nodes.flat none (.op (some 2) (.move (.c (.int .i64 0))) 0
  .nil)) false)
 (.seq (.region (Nodes.flat none (.op (some 3) (.move (.t 0)) 0
  (.op (some 4) (.conv .i32 (.t 3)) 0
  (.op (some 5) (.conv .i64 (.t 4)) 0
  (.op (some 2) (.move (.t 5)) 0
  .nil))))) false)
 .ret)),
 [.tmp 2]⟩
theorem b113 : fnOf Go.Proofs.Tryz.prog (owOf []) 113 = some c113 := by kernel_rfl
def c114 : RFn := ⟨(.seq (.region (Nodes.flat none (.op (some 3) (.box (.t 0)) 0
  (.op (some 4) (.box (.t 1)) 0
  (.op (some 6) (.alloc (.agg [(.int .i64 0), (.int .i64 0)])) 0
  .nil)))) false)
 (.seq (.region (Nodes.flat none (.op (some 7) (.load (some 2) (.t 3)) 0
  (.op (some 8) (.call 134 [(.t 7)]) 1
  (.op (some 9) (.load (some 2) (.t 4)) 0
  (.op (some 10) (.call 134 [(.t 9)]) 7
  (.op none (.store 2 (.t 3) (.t 8)) 15
  (.op none (.store 2 (.t 4) (.t 10)) 31
  .nil))))))) true)
 (.seq (.block 0 (.seq (.region (Nodes.flat none (.op (some 12) (.fieldAddr 0 (.t 3)) 0
  (.op (some 13) (.load none (.t 12)) 0
  (.op (some 14) (.bin .eql (.t 13) (.c (.int .i64 0))) 0
  (.op (some 15) (.move (.t 14)) 0
  (.grd 15 false
  (.op (some 16) (.fieldAddr 0 (.t 4)) 0
  (.op (some 17) (.load none (.t 16)) 0
  (.op (some 18) (.bin .eql (.t 17) (.c (.int .i64 0))) 0
  .nil)))
  (.op (some 19) (.pick (.t 15) (.c (.bool true)) (.t 18)) 0
  (.op (some 11) (.move (.t 19)) 0
  .nil)))))))) false)
 (.cond (.t 11)
 (.seq (.region (Nodes.flat none (.op (some 20) (.build [(.int .i64 0), (.int .i64 0)] []) 0
  (.op none (.store 2 (.t 6) (.t 20)) 0
  .nil))) false)
 .ret)
 (.seq (.region (Nodes.flat none (.op (some 22) (.fieldAddr 0 (.t 3)) 0
  (.op (some 23) (.load none (.t 22)) 0
  (.op (some 24) (.bin .eql (.t 23) (.c (.int .i64 2))) 0
  (.op (some 25) (.move (.t 24)) 0
  (.grd 25 false
  (.op (some 26) (.fieldAddr 0 (.t 4)) 0
  (.op (some 27) (.load none (.t 26)) 0
  (.op (some 28) (.bin .eql (.t 27) (.c (.int .i64 2))) 0
  .nil)))
  (.op (some 29) (.pick (.t 25) (.c (.bool true)) (.t 28)) 0
  (.op (some 21) (.move (.t 29)) 0
  .nil)))))))) false)
 (.cond (.t 21)
 (.seq (.region (Nodes.flat none (.op (some 30) (.build [(.int .i64 0), (.int .i64 0)] [(0, 1, (.c (.int .i64 2)))]) 0
  (.op none (.store 2 (.t 6) (.t 30)) 0
  .nil))) false)
 .ret)
 .skip)))))
 (.seq (.region (Nodes.flat none (.op (some 31) (.move (.t 2)) 0
  (.op (some 32) (.fieldAddr 1 (.t 3)) 0
  (.op (some 33) (.load none (.t 32)) 0
  (.op (some 34) (.fieldAddr 1 (.t 4)) 0
  (.op (some 35) (.load none (.t 34)) 0
  (.op (some 36) (.callv (.t 31) [(.t 33), (.t 35)]) 0
  (.op (some 37) (.call 62 [(.t 36)]) 0
  (.op none (.store 2 (.t 6) (.t 37)) 0
  .nil))))))))) false)
 .ret)))),
 [.cell (some 2) 6]⟩
theorem b114 : fnOf Go.Proofs.Tryz.prog (owOf []) 114 = some c114 := by kernel_rfl
def c115 : RFn := ⟨(.seq (.region (Nodes.flat none (.op (some 4) (.move (.c (.int .i64 0))) 0
  .nil)) false)
 (.seq (.region (Nodes.flat none (.op (some 5) (.move (.t 0)) 0
  (.op (some 6) (.move (.t 1)) 0
  (.op (some 7) (.bin .add (.t 5) (.t 6)) 0
  (.op (some 4) (.move (.t 7)) 0
  .nil))))) false)
 .ret)),
 [.tmp 4]⟩
theorem b115 : fnOf Go.Proofs.Tryz.prog (owOf []) 115 = some c115 := by kernel_rfl
def c116 : RFn := ⟨(.seq (.region (Nodes.flat none (.op (some 4) (.move (.c (.int .i64 0))) 0
  .nil)) false)
 (.seq (.region (Nodes.flat none (.op (some 5) (.move (.t 0)) 0
  (.op (some 6) (.move (.t 1)) 0
  (.op (some 7) (.bin .sub (.t 5) (.t 6)) 0
  (.op (some 4) (.move (.t 7)) 0
  .nil))))) false)
 .ret)),
 [.tmp 4]⟩
theorem b116 : fnOf Go.Proofs.Tryz.prog (owOf []) 116 = some c116 := by kernel_rfl
def c117 : RFn := ⟨(.seq (.region (Nodes.flat none (.op (some 4) (.move (.c (.int .i64 0))) 0
  .nil)) false)
 (.seq (.region (Nodes.flat none (.op (some 5) (.move (.t 0)) 0
  (.op (some 6) (.move (.t 1)) 0
  (.op (some 7) (.bin .mul (.t 5) (.t 6)) 0
  (.op (some 4) (.move (.t 7)) 0
  .nil))))) false)
 .ret)),
 [.tmp 4]⟩
theorem b117 : fnOf Go.Proofs.Tryz.prog (owOf []) 117 = some c117 := by kernel_rfl
def c134 : RFn := ⟨(.seq (.region (Nodes.flat none (.op (some 1) (.box (.t 0)) 0
  (.op (some 2) (.alloc (.agg [(.int .i64 0), (.int .i64 0)])) 0
  .nil))) false)
 (.seq (.seq (.region (Nodes.flat none (.op (some 3) (.load (some 2) (.t 1)) 0
  (.op (some 4) (.call 143 [(.t 3)]) 0
  (.op (some 5) (.un .not (.t 4)) 0
  .nil)))) false)
 (.cond (.t 5)
 (.seq (.region (Nodes.flat none (.op (some 6) (.build [(.int .i64 0), (.int .i64 0)] [(0, 1, (.c (.int .i64 2)))]) 0
  (.op none (.store 2 (.t 2) (.t 6)) 0
  .nil))) false)
 .ret)
 .skip))
 (.seq (.region (Nodes.flat none (.op (some 7) (.load (some 2) (.t 1)) 0
  (.op none (.store 2 (.t 2) (.t 7)) 0
  .nil))) false)
 .ret))),
 [.cell (some 2) 2]⟩
theorem b134 : fnOf Go.Proofs.Tryz.prog (owOf []) 134 = some c134 := by kernel_rfl
def c143 : RFn := ⟨(.seq (.region (Nodes.flat none (.op (some 1) (.box (.t 0)) 0
  (.op (some 2) (.move (.c (.bool false))) 0
  .nil))) false)
 (.seq (.seq (.region (Nodes.flat none (.op (some 3) (.fieldAddr 0 (.t 1)) 0
  (.op (some 4) (.load none (.t 3)) 0
  .nil))) false)
 (.block 0 (.seq (.region (Nodes.flat none (.op (some 6) (.bin .eql (.t 4) (.c (.int .i64 1))) 0
  (.op (some 5) (.move (.t 6)) 0
  .nil))) false)
 (.cond (.t 5)
 (.seq (.region (Nodes.flat none (.op (some 7) (.fieldAddr 1 (.t 1)) 0
  (.op (some 8) (.load none (.t 7)) 0
  (.op (some 9) (.bin .geq (.t 8) (.c (.int .i64 (-2147483648)))) 0
  (.op (some 10) (.move (.t 9)) 0
  (.grd 10 true
  (.op (some 11) (.fieldAddr 1 (.t 1)) 0
  (.op (some 12) (.load none (.t 11)) 0
  (.op (some 13) (.bin .leq (.t 12) (.c (.int .i64 2147483647))) 0
  .nil)))
  (.op (some 14) (.pick (.t 10) (.t 13) (.c (.bool false))) 0
  (.op (some 2) (.move (.t 14)) 0
  .nil)))))))) false)
 .ret)
 (.seq (.seq (.region (Nodes.flat none (.op (some 16) (.bin .eql (.t 4) (.c (.int .i64 0))) 0
  (.op (some 15) (.move (.t 16)) 0
  .nil))) false)
 (.cond (.t 15)
 .skip
 (.region (Nodes.flat none (.op (some 17) (.bin .eql (.t 4) (.c (.int .i64 2))) 0
  (.op (some 15) (.move (.t 17)) 0
  .nil))) false)))
 (.cond (.t 15)
 (.seq (.region (Nodes.flat none (.op (some 18) (.fieldAddr 1 (.t 1)) 0
  (.op (some 19) (.load none (.t 18)) 0
  (.op (some 20) (.bin .eql (.t 19) (.c (.int .i64 0))) 0
  (.op (some 2) (.move (.t 20)) 0
  .nil))))) false)
 .ret)
 .skip))))))
 (.seq (.region (Nodes.flat none (.op (some 2) (.move (.c (.bool false))) 0
  .nil)) false)
 .ret))),
 [.tmp 2]⟩
theorem b143 : fnOf Go.Proofs.Tryz.prog (owOf []) 143 = some c143 := by kernel_rfl
end Go.Vm
end
section
/- Walks. -/
set_option maxRecDepth 100000
set_option linter.unusedSimpArgs false
set_option linter.unusedVariables false
namespace Go.Vm
open Go
section
variable {gl : Nat → Option PV}
theorem p_flat_Sane (k c : Int) : Pure Go.Proofs.Tryz.prog gl 143 [.agg [.int .i64 k, .int .i64 c]] (.bool (vSane k c)) := by
  refine Pure.fn hmix b143 ?_
  repeat' first
    | with_reducible refine tr_seq ?_
    | ((with_reducible refine tr_region_f ?_ ?_); kernel_rfl)
    | with_reducible refine n_nil ?_
    | exact ⟨rfl, rfl⟩
    | with_reducible refine seqQ_normal ?_
    | with_reducible refine seqQ_ret ?_
    | with_reducible refine blkQ_normal ?_
    | with_reducible refine blkQ_ret ?_
    | with_reducible refine tr_block ?_
    | with_reducible refine tr_skip ?_
    | with_reducible refine tr_ret ?_
    | ((with_reducible apply tr_cond_e); rfl)
    | with_reducible refine condT_t ?_
    | with_reducible refine condT_f ?_
    | ((with_reducible apply n_and); rfl; rfl; intro h)
    | ((with_reducible apply n_or); rfl; rfl; intro h)
    | ((with_reducible apply n_val); rfl; rfl)
    | ((with_reducible apply n_new); rfl; (first | (simp only [hn0, hn1, hn2, hn3, hn4, hn5, List.length_cons, List.length_nil, Nat.reduceAdd, Nat.zero_add]; done) | (simp only [hn0, hn1, hn2, hn3, hn4, hn5, List.length_cons, List.length_nil, Nat.reduceAdd, Nat.zero_add]; rfl) | rfl); rfl)
    | (with_reducible refine condT_split (fun h => ?_) (fun h => ?_))
    | ((with_reducible apply fnQ_told_ret); rfl)
    | ((with_reducible apply fnQ_ret_soft); rfl; rfl)
  all_goals (simp_all [vSane]; try omega)
theorem p_flat_sane (k c : Int) : Pure Go.Proofs.Tryz.prog gl 134 [.agg [.int .i64 k, .int .i64 c]] (pv (toV k c)) := by
  refine Pure.fn hmix b134 ?_
  repeat' first
    | with_reducible refine tr_seq ?_
    | ((with_reducible refine tr_region_f ?_ ?_); kernel_rfl)
    | with_reducible refine n_nil ?_
    | with_reducible refine seqQ_normal ?_
    | with_reducible refine seqQ_ret ?_
    | with_reducible refine blkQ_ret ?_
    | with_reducible refine tr_skip ?_
    | with_reducible refine tr_ret ?_
    | ((with_reducible apply tr_cond_e); rfl)
    | with_reducible refine condT_t ?_
    | with_reducible refine condT_f ?_
    | ((with_reducible apply n_val); rfl; rfl)
    | ((with_reducible apply n_new); rfl; (first | (simp only [hn0, hn1, hn2, hn3, hn4, hn5, List.length_cons, List.length_nil, Nat.reduceAdd, Nat.zero_add]; done) | (simp only [hn0, hn1, hn2, hn3, hn4, hn5, List.length_cons, List.length_nil, Nat.reduceAdd, Nat.zero_add]; rfl) | rfl); rfl)
    | ((with_reducible apply n_store); rfl; rfl; rfl; rfl; rfl)
    | ((with_reducible apply n_call (f := 143)); rfl; rfl; exact p_flat_Sane ..)
    | (with_reducible refine condT_split (fun h => ?_) (fun h => ?_))
    | ((with_reducible apply fnQ_told_ret); rfl)
    | ((with_reducible apply fnQ_ret_soft); rfl; rfl)
  · simp_all [toV_unsane, V3.k, V3.c]
  · simp_all [toV_sane]
theorem p_flat_Wrap (n : Int) : Pure Go.Proofs.Tryz.prog gl 113 [.int .i64 n] (.int .i64 (BitVec.ofInt 32 n).toInt) := by
  refine Pure.fn hmix b113 ?_
  repeat' first
    | with_reducible refine tr_seq ?_
    | ((with_reducible refine tr_region_f ?_ ?_); kernel_rfl)
    | with_reducible refine n_nil ?_
    | with_reducible refine seqQ_normal ?_
    | with_reducible refine seqQ_ret ?_
    | with_reducible refine blkQ_ret ?_
    | with_reducible refine tr_ret ?_
    | ((with_reducible apply n_val); rfl; rfl)
    | ((with_reducible apply fnQ_told_ret); rfl)
    | ((with_reducible apply fnQ_ret_soft); rfl; rfl)
  rw [toInt_ofInt32, IntKind.wrap_i64, IntKind.wrap_i32]
  congr 1
  omega
theorem p_flat_Of (n : Int) : Pure Go.Proofs.Tryz.prog gl 62 [.int .i64 n] (pv (.one (BitVec.ofInt 32 n))) := by
  refine Pure.fn hmix b62 ?_
  repeat' first
    | with_reducible refine tr_seq ?_
    | ((with_reducible refine tr_region_f ?_ ?_); kernel_rfl)
    | with_reducible refine n_nil ?_
    | with_reducible refine seqQ_normal ?_
    | with_reducible refine seqQ_ret ?_
    | with_reducible refine blkQ_ret ?_
    | with_reducible refine tr_ret ?_
    | ((with_reducible apply n_val); rfl; rfl)
    | ((with_reducible apply n_new); rfl; (first | (simp only [hn0, hn1, hn2, hn3, hn4, hn5, List.length_cons, List.length_nil, Nat.reduceAdd, Nat.zero_add]; done) | (simp only [hn0, hn1, hn2, hn3, hn4, hn5, List.length_cons, List.length_nil, Nat.reduceAdd, Nat.zero_add]; rfl) | rfl); rfl)
    | ((with_reducible apply n_store); rfl; rfl; rfl; rfl; rfl)
    | ((with_reducible apply n_call (f := 113)); rfl; rfl; exact p_flat_Wrap ..)
    | ((with_reducible apply fnQ_told_ret); rfl)
    | ((with_reducible apply fnQ_ret_soft); rfl; rfl)
  rfl
theorem p_flat_Join (k c k' c' : Int) : Pure Go.Proofs.Tryz.prog gl 95 [.agg [.int .i64 k, .int .i64 c], .agg [.int .i64 k', .int .i64 c']] (pv ((toV k c).join (toV k' c'))) := by
  refine Pure.fn hmix b95 ?_
  repeat' first
    | with_reducible refine tr_seq ?_
    | ((with_reducible refine tr_region_f ?_ ?_); kernel_rfl)
    | ((with_reducible refine tr_region_t ?_ ?_ ?_); kernel_rfl; kernel_rfl)
    | with_reducible refine n_nil ?_
    | exact ⟨rfl, rfl⟩
    | with_reducible refine seqQ_normal ?_
    | with_reducible refine seqQ_ret ?_
    | with_reducible refine blkQ_normal ?_
    | with_reducible refine blkQ_ret ?_
    | with_reducible refine tr_block ?_
    | with_reducible refine tr_skip ?_
    | with_reducible refine tr_ret ?_
    | ((with_reducible apply tr_cond_e); rfl)
    | with_reducible refine condT_t ?_
    | with_reducible refine condT_f ?_
    | ((with_reducible apply n_and); rfl; rfl; intro h)
    | ((with_reducible apply n_or); rfl; rfl; intro h)
    | ((with_reducible apply n_val); rfl; rfl)
    | ((with_reducible apply n_new); rfl; (first | (simp only [hn0, hn1, hn2, hn3, hn4, hn5, List.length_cons, List.length_nil, Nat.reduceAdd, Nat.zero_add]; done) | (simp only [hn0, hn1, hn2, hn3, hn4, hn5, List.length_cons, List.length_nil, Nat.reduceAdd, Nat.zero_add]; rfl) | rfl); rfl)
    | ((with_reducible apply n_store); rfl; rfl; rfl; rfl; rfl)
    | ((with_reducible apply n_eqs_f); rfl; rfl; rfl)
    | ((with_reducible apply n_call (f := 134)); rfl; rfl; exact p_flat_sane ..)
    | (with_reducible refine condT_split (fun h => ?_) (fun h => ?_))
    | ((with_reducible apply fnQ_told_ret); rfl)
    | ((with_reducible apply fnQ_ret_soft); rfl; rfl)
  all_goals (generalize toV k c = A at *; generalize toV k' c' = B at *; cases A <;> cases B <;> simp_all [V3.join, V3.k, V3.c, BitVec.toInt_inj])
theorem p_flat_Leq (k c k' c' : Int) : Pure Go.Proofs.Tryz.prog gl 96 [.agg [.int .i64 k, .int .i64 c], .agg [.int .i64 k', .int .i64 c']] (.bool ((toV k c).leq (toV k' c'))) := by
  refine Pure.fn hmix b96 ?_
  repeat' first
    | with_reducible refine tr_seq ?_
    | ((with_reducible refine tr_region_f ?_ ?_); kernel_rfl)
    | ((with_reducible refine tr_region_t ?_ ?_ ?_); kernel_rfl; kernel_rfl)
    | with_reducible refine n_nil ?_
    | with_reducible refine seqQ_normal ?_
    | with_reducible refine seqQ_ret ?_
    | with_reducible refine blkQ_ret ?_
    | with_reducible refine tr_ret ?_
    | ((with_reducible apply n_val); rfl; rfl)
    | ((with_reducible apply n_new); rfl; (first | (simp only [hn0, hn1, hn2, hn3, hn4, hn5, List.length_cons, List.length_nil, Nat.reduceAdd, Nat.zero_add]; done) | (simp only [hn0, hn1, hn2, hn3, hn4, hn5, List.length_cons, List.length_nil, Nat.reduceAdd, Nat.zero_add]; rfl) | rfl); rfl)
    | ((with_reducible apply n_eqs_f); rfl; rfl; rfl)
    | ((with_reducible apply n_call (f := 134)); rfl; rfl; exact p_flat_sane ..)
    | ((with_reducible apply n_call (f := 95)); rfl; rfl; exact p_flat_Join ..)
    | ((with_reducible apply fnQ_told_ret); rfl)
    | ((with_reducible apply fnQ_ret_soft); rfl; rfl)
  rw [V3.beq]
  rfl
theorem p_flat_each (f : FuncId) (g : Int → Int → Int) (o : BitVec 32 → BitVec 32 → BitVec 32) (hf : ∀ x y, Pure Go.Proofs.Tryz.prog gl f [.int .i64 x, .int .i64 y] (.int .i64 (g x y))) (ho : ∀ x y : BitVec 32, BitVec.ofInt 32 (g x.toInt y.toInt) = o x y) (k c k' c' : Int) :
    Pure Go.Proofs.Tryz.prog gl 114 [.agg [.int .i64 k, .int .i64 c], .agg [.int .i64 k', .int .i64 c'], .fn f []] (pv (V3.each o (toV k c) (toV k' c'))) := by
  refine Pure.fn hmix b114 ?_
  repeat' first
    | with_reducible refine tr_seq ?_
    | ((with_reducible refine tr_region_f ?_ ?_); kernel_rfl)
    | ((with_reducible refine tr_region_t ?_ ?_ ?_); kernel_rfl; kernel_rfl)
    | with_reducible refine n_nil ?_
    | exact ⟨rfl, rfl⟩
    | with_reducible refine seqQ_normal ?_
    | with_reducible refine seqQ_ret ?_
    | with_reducible refine blkQ_normal ?_
    | with_reducible refine blkQ_ret ?_
    | with_reducible refine tr_block ?_
    | with_reducible refine tr_skip ?_
    | with_reducible refine tr_ret ?_
    | ((with_reducible apply tr_cond_e); rfl)
    | with_reducible refine condT_t ?_
    | with_reducible refine condT_f ?_
    | ((with_reducible apply n_and); rfl; rfl; intro h)
    | ((with_reducible apply n_or); rfl; rfl; intro h)
    | refine n_callv rfl rfl rfl (hf ..) ?_
    | ((with_reducible apply n_val); rfl; rfl)
    | ((with_reducible apply n_new); rfl; (first | (simp only [hn0, hn1, hn2, hn3, hn4, hn5, List.length_cons, List.length_nil, Nat.reduceAdd, Nat.zero_add]; done) | (simp only [hn0, hn1, hn2, hn3, hn4, hn5, List.length_cons, List.length_nil, Nat.reduceAdd, Nat.zero_add]; rfl) | rfl); rfl)
    | ((with_reducible apply n_store); rfl; rfl; rfl; rfl; rfl)
    | ((with_reducible apply n_call (f := 134)); rfl; rfl; exact p_flat_sane ..)
    | ((with_reducible apply n_call (f := 62)); rfl; rfl; exact p_flat_Of ..)
    | (with_reducible refine condT_split (fun h => ?_) (fun h => ?_))
    | ((with_reducible apply fnQ_told_ret); rfl)
    | ((with_reducible apply fnQ_ret_soft); rfl; rfl)
  all_goals (generalize toV k c = A at *; generalize toV k' c' = B at *; cases A <;> cases B <;> simp_all [V3.each, V3.k, V3.c])
theorem p_flat_add1 (x y : Int) : Pure Go.Proofs.Tryz.prog gl 115 [.int .i64 x, .int .i64 y] (.int .i64 (IntKind.i64.wrap (x + y))) := by
  refine Pure.fn hmix b115 ?_
  repeat' first
    | with_reducible refine tr_seq ?_
    | ((with_reducible refine tr_region_f ?_ ?_); kernel_rfl)
    | with_reducible refine n_nil ?_
    | with_reducible refine seqQ_normal ?_
    | with_reducible refine seqQ_ret ?_
    | with_reducible refine blkQ_ret ?_
    | with_reducible refine tr_ret ?_
    | ((with_reducible apply n_val); rfl; rfl)
    | ((with_reducible apply fnQ_told_ret); rfl)
    | ((with_reducible apply fnQ_ret_soft); rfl; rfl)
  rfl
theorem p_flat_sub1 (x y : Int) : Pure Go.Proofs.Tryz.prog gl 116 [.int .i64 x, .int .i64 y] (.int .i64 (IntKind.i64.wrap (x - y))) := by
  refine Pure.fn hmix b116 ?_
  repeat' first
    | with_reducible refine tr_seq ?_
    | ((with_reducible refine tr_region_f ?_ ?_); kernel_rfl)
    | with_reducible refine n_nil ?_
    | with_reducible refine seqQ_normal ?_
    | with_reducible refine seqQ_ret ?_
    | with_reducible refine blkQ_ret ?_
    | with_reducible refine tr_ret ?_
    | ((with_reducible apply n_val); rfl; rfl)
    | ((with_reducible apply fnQ_told_ret); rfl)
    | ((with_reducible apply fnQ_ret_soft); rfl; rfl)
  rfl
theorem p_flat_mul1 (x y : Int) : Pure Go.Proofs.Tryz.prog gl 117 [.int .i64 x, .int .i64 y] (.int .i64 (IntKind.i64.wrap (x * y))) := by
  refine Pure.fn hmix b117 ?_
  repeat' first
    | with_reducible refine tr_seq ?_
    | ((with_reducible refine tr_region_f ?_ ?_); kernel_rfl)
    | with_reducible refine n_nil ?_
    | with_reducible refine seqQ_normal ?_
    | with_reducible refine seqQ_ret ?_
    | with_reducible refine blkQ_ret ?_
    | with_reducible refine tr_ret ?_
    | ((with_reducible apply n_val); rfl; rfl)
    | ((with_reducible apply fnQ_told_ret); rfl)
    | ((with_reducible apply fnQ_ret_soft); rfl; rfl)
  rfl
theorem p_flat_Add (k c k' c' : Int) : Pure Go.Proofs.Tryz.prog gl 64 [.agg [.int .i64 k, .int .i64 c], .agg [.int .i64 k', .int .i64 c']] (pv ((toV k c).add (toV k' c'))) := by
  refine Pure.fn hmix b64 ?_
  repeat' first
    | with_reducible refine tr_seq ?_
    | ((with_reducible refine tr_region_f ?_ ?_); kernel_rfl)
    | with_reducible refine n_nil ?_
    | with_reducible refine seqQ_normal ?_
    | with_reducible refine seqQ_ret ?_
    | with_reducible refine blkQ_ret ?_
    | with_reducible refine tr_ret ?_
    | ((with_reducible apply n_val); rfl; rfl)
    | ((with_reducible apply n_new); rfl; (first | (simp only [hn0, hn1, hn2, hn3, hn4, hn5, List.length_cons, List.length_nil, Nat.reduceAdd, Nat.zero_add]; done) | (simp only [hn0, hn1, hn2, hn3, hn4, hn5, List.length_cons, List.length_nil, Nat.reduceAdd, Nat.zero_add]; rfl) | rfl); rfl)
    | ((with_reducible apply n_store); rfl; rfl; rfl; rfl; rfl)
    | ((with_reducible apply n_call (f := 114)); rfl; rfl; exact p_flat_each _ _ (· + ·) p_flat_add1 o_add _ _ _ _)
    | ((with_reducible apply fnQ_told_ret); rfl)
    | ((with_reducible apply fnQ_ret_soft); rfl; rfl)
  rfl
theorem p_flat_Sub (k c k' c' : Int) : Pure Go.Proofs.Tryz.prog gl 65 [.agg [.int .i64 k, .int .i64 c], .agg [.int .i64 k', .int .i64 c']] (pv ((toV k c).sub (toV k' c'))) := by
  refine Pure.fn hmix b65 ?_
  repeat' first
    | with_reducible refine tr_seq ?_
    | ((with_reducible refine tr_region_f ?_ ?_); kernel_rfl)
    | with_reducible refine n_nil ?_
    | with_reducible refine seqQ_normal ?_
    | with_reducible refine seqQ_ret ?_
    | with_reducible refine blkQ_ret ?_
    | with_reducible refine tr_ret ?_
    | ((with_reducible apply n_val); rfl; rfl)
    | ((with_reducible apply n_new); rfl; (first | (simp only [hn0, hn1, hn2, hn3, hn4, hn5, List.length_cons, List.length_nil, Nat.reduceAdd, Nat.zero_add]; done) | (simp only [hn0, hn1, hn2, hn3, hn4, hn5, List.length_cons, List.length_nil, Nat.reduceAdd, Nat.zero_add]; rfl) | rfl); rfl)
    | ((with_reducible apply n_store); rfl; rfl; rfl; rfl; rfl)
    | ((with_reducible apply n_call (f := 114)); rfl; rfl; exact p_flat_each _ _ (· - ·) p_flat_sub1 o_sub _ _ _ _)
    | ((with_reducible apply fnQ_told_ret); rfl)
    | ((with_reducible apply fnQ_ret_soft); rfl; rfl)
  rfl
theorem p_flat_Mul (k c k' c' : Int) : Pure Go.Proofs.Tryz.prog gl 66 [.agg [.int .i64 k, .int .i64 c], .agg [.int .i64 k', .int .i64 c']] (pv ((toV k c).mul (toV k' c'))) := by
  refine Pure.fn hmix b66 ?_
  repeat' first
    | with_reducible refine tr_seq ?_
    | ((with_reducible refine tr_region_f ?_ ?_); kernel_rfl)
    | with_reducible refine n_nil ?_
    | with_reducible refine seqQ_normal ?_
    | with_reducible refine seqQ_ret ?_
    | with_reducible refine blkQ_ret ?_
    | with_reducible refine tr_ret ?_
    | ((with_reducible apply n_val); rfl; rfl)
    | ((with_reducible apply n_new); rfl; (first | (simp only [hn0, hn1, hn2, hn3, hn4, hn5, List.length_cons, List.length_nil, Nat.reduceAdd, Nat.zero_add]; done) | (simp only [hn0, hn1, hn2, hn3, hn4, hn5, List.length_cons, List.length_nil, Nat.reduceAdd, Nat.zero_add]; rfl) | rfl); rfl)
    | ((with_reducible apply n_store); rfl; rfl; rfl; rfl; rfl)
    | ((with_reducible apply n_call (f := 114)); rfl; rfl; exact p_flat_each _ _ (· * ·) p_flat_mul1 o_mul _ _ _ _)
    | ((with_reducible apply fnQ_told_ret); rfl)
    | ((with_reducible apply fnQ_ret_soft); rfl; rfl)
  rfl
theorem p_flat_Neg (k c : Int) : Pure Go.Proofs.Tryz.prog gl 63 [.agg [.int .i64 k, .int .i64 c]] (pv (toV k c).neg) := by
  refine Pure.fn hmix b63 ?_
  repeat' first
    | with_reducible refine tr_seq ?_
    | ((with_reducible refine tr_region_f ?_ ?_); kernel_rfl)
    | ((with_reducible refine tr_region_t ?_ ?_ ?_); kernel_rfl; kernel_rfl)
    | with_reducible refine n_nil ?_
    | with_reducible refine seqQ_normal ?_
    | with_reducible refine seqQ_ret ?_
    | with_reducible refine blkQ_ret ?_
    | with_reducible refine tr_ret ?_
    | ((with_reducible apply n_val); rfl; rfl)
    | ((with_reducible apply n_new); rfl; (first | (simp only [hn0, hn1, hn2, hn3, hn4, hn5, List.length_cons, List.length_nil, Nat.reduceAdd, Nat.zero_add]; done) | (simp only [hn0, hn1, hn2, hn3, hn4, hn5, List.length_cons, List.length_nil, Nat.reduceAdd, Nat.zero_add]; rfl) | rfl); rfl)
    | ((with_reducible apply n_store); rfl; rfl; rfl; rfl; rfl)
    | ((with_reducible apply n_call (f := 62)); rfl; rfl; exact p_flat_Of ..)
    | ((with_reducible apply n_call (f := 65)); rfl; rfl; exact p_flat_Sub ..)
    | ((with_reducible apply fnQ_told_ret); rfl)
    | ((with_reducible apply fnQ_ret_soft); rfl; rfl)
  simp [toV_kc, V3.neg]
end
section
variable {gl : Nat → Option PV}
end
end Go.Vm
end
