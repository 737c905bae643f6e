/- Laid. -/
import Derived.Test.YtlcbceneacnaiaaGreatDoorVmThree
import Derived.KernelRfl
import Derived.Test.YtlcbceneacnaiaaGreatDoorProg
import Derived.Test.YtlcbceneacnaiaaGreatDoorXinstrF
import Derived.Test.YtlcbceneacnaiaaGreatDoorLAll
section
/- Code. -/
set_option maxRecDepth 100000
set_option linter.unusedSimpArgs false
set_option linter.unusedVariables false
namespace Go.Vm
open Go
def c5 : RFn := ⟨(.seq (.region (Nodes.flat none (.op (some 0) (.move (.c (.bool false))) 0
  .nil)) false)
 (.seq (.region (Nodes.flat none (.op (some 2) (.build [(.int .i64 0), (.int .i64 0), (.int .i64 0), (.int .i64 0), (.int .i64 0), (.int .i64 0), (.int .i64 0), (.int .i64 0), (.int .i64 0), (.int .i64 0), (.int .i64 0)] [(1, 1, (.c (.int .i64 3))), (3, 1, (.c (.int .i64 1))), (4, 1, (.c (.int .i64 1)))]) 0
  (.op (some 1) (.alloc (.agg [(.int .i64 0), (.int .i64 0), (.int .i64 0), (.int .i64 0), (.int .i64 0), (.int .i64 0), (.int .i64 0), (.int .i64 0), (.int .i64 0), (.int .i64 0), (.int .i64 0)])) 0
  (.op none (.store 11 (.t 1) (.t 2)) 0
  .nil)))) false)
 (.seq (.region (Nodes.flat none (.op (some 3) (.load (some 11) (.t 1)) 0
  (.op (some 4) (.call 26 [(.t 3)]) 0
  (.op (some 5) (.move (.t 4)) 0
  (.grd 5 true
  (.op (some 6) (.load (some 11) (.t 1)) 0
  (.op (some 7) (.call 27 [(.t 6)]) 0
  (.op (some 8) (.bin .eql (.t 7) (.c (.int .i64 0))) 0
  .nil)))
  (.op (some 9) (.pick (.t 5) (.t 8) (.c (.bool false))) 0
  (.op (some 10) (.move (.t 9)) 0
  (.grd 10 true
  (.op (some 11) (.load (some 11) (.t 1)) 0
  (.op (some 12) (.call 29 [(.t 11)]) 0
  (.op (some 13) (.bslice false 1 1 (.int .i64 0) [(0, (.c (.int .i64 1)))]) 0
  (.op (some 14) (.call 28 [(.t 12), (.t 13)]) 0
  .nil))))
  (.op (some 15) (.pick (.t 10) (.t 14) (.c (.bool false))) 0
  (.op (some 16) (.move (.t 15)) 0
  (.grd 16 true
  (.op (some 17) (.call 30 [(.c (.int .i64 3))]) 0
  (.op (some 18) (.bin .eql (.t 17) (.c (.str ⟨#[97, 100, 100]⟩))) 0
  .nil))
  (.op (some 19) (.pick (.t 16) (.t 18) (.c (.bool false))) 0
  (.op (some 0) (.move (.t 19)) 0
  .nil))))))))))))) false)
 .ret))),
 [.tmp 0]⟩
theorem b5 : fnOf Go.Proofs.Tryz.prog (owOf [(2, 10)]) 5 = some c5 := by kernel_rfl
end Go.Vm
end
section
/- Walks. -/
set_option maxRecDepth 100000
set_option linter.unusedSimpArgs false
set_option linter.unusedVariables false
namespace Go.Vm
open Go
set_option maxHeartbeats 4000000
theorem p_law05_awake : Pure Go.Proofs.Tryz.prog glD 5 [] (.bool true) := by
  have h1 := p_Form ⟨0, 3, 0, 1, 1, 0, 0, 0, 0, 0, 0⟩
  have h2 := p_Def ⟨0, 3, 0, 1, 1, 0, 0, 0, 0, 0, 0⟩
  have h3 := p_Uses ⟨0, 3, 0, 1, 1, 0, 0, 0, 0, 0, 0⟩
  have h4 := p_instr_Name 3
  refine Pure.fn hmix b5 ?_
  repeat' first
    | with_reducible refine tr_seq ?_
    | ((with_reducible refine tr_region_f ?_ ?_); kernel_rfl)
    | with_reducible refine n_nil ?_
    | exact ⟨rfl, rfl⟩
    | with_reducible refine seqQ_normal ?_
    | with_reducible refine seqQ_ret ?_
    | with_reducible refine blkQ_ret ?_
    | with_reducible refine tr_ret ?_
    | ((with_reducible apply n_and); rfl; rfl; intro h)
    | ((with_reducible apply n_or); rfl; rfl; intro h)
    | ((with_reducible apply n_call (f := 26)); rfl; rfl; exact h1)
    | ((with_reducible apply n_call (f := 27)); rfl; rfl; exact h2)
    | ((with_reducible apply n_call (f := 29)); rfl; rfl; exact h3)
    | ((with_reducible apply n_call (f := 30)); rfl; rfl; exact h4)
    | ((with_reducible apply n_val); rfl; rfl)
    | ((with_reducible apply n_new); rfl; (first | (simp only [hn0, hn1, hn2, hn3, hn4, hn5, List.length_cons, List.length_nil, Nat.reduceAdd, Nat.zero_add]; done) | (simp only [hn0, hn1, hn2, hn3, hn4, hn5, List.length_cons, List.length_nil, Nat.reduceAdd, Nat.zero_add]; rfl) | rfl); rfl)
    | ((with_reducible apply n_store); rfl; rfl; rfl; rfl; rfl)
    | ((with_reducible apply n_call (f := 28)); rfl; rfl; exact p_ref01_Ints _ [1] (by decide +kernel))
    | ((with_reducible apply fnQ_told_ret); rfl)
    | ((with_reducible apply fnQ_ret_soft); rfl; rfl)
  refine congrArg PV.bool ?_
  decide +kernel
end Go.Vm
end
