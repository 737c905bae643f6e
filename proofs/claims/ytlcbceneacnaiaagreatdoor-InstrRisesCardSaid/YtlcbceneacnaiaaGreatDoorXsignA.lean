/- Laid. -/
import Derived.Test.YtlcbceneacnaiaaGreatDoorVmThree
import Derived.KernelRfl
import Derived.Test.YtlcbceneacnaiaaGreatDoorProg
import Derived.Test.YtlcbceneacnaiaaGreatDoorXflatC
import Derived.Test.YtlcbceneacnaiaaGreatDoorLAll
section
/- Code. -/
set_option maxRecDepth 100000
set_option linter.unusedSimpArgs false
set_option linter.unusedVariables false
namespace Go.Vm
open Go
def c80 : RFn := ⟨(.seq (.region (Nodes.flat none (.op (some 2) (.move (.c (.int .i64 0))) 0
  .nil)) false)
 (.seq (.block 0 (.seq (.region (Nodes.flat none (.op (some 4) (.move (.t 0)) 0
  (.op (some 5) (.bin .lss (.t 4) (.c (.int .i64 0))) 0
  (.op (some 3) (.move (.t 5)) 0
  .nil)))) false)
 (.cond (.t 3)
 (.seq (.region (Nodes.flat none (.op (some 2) (.move (.c (.int .i64 1))) 0
  .nil)) false)
 .ret)
 (.seq (.region (Nodes.flat none (.op (some 7) (.move (.t 0)) 0
  (.op (some 8) (.bin .gtr (.t 7) (.c (.int .i64 0))) 0
  (.op (some 6) (.move (.t 8)) 0
  .nil)))) false)
 (.cond (.t 6)
 (.seq (.region (Nodes.flat none (.op (some 2) (.move (.c (.int .i64 4))) 0
  .nil)) false)
 .ret)
 .skip)))))
 (.seq (.region (Nodes.flat none (.op (some 2) (.move (.c (.int .i64 2))) 0
  .nil)) false)
 .ret))),
 [.tmp 2]⟩
theorem b80 : fnOf Go.Proofs.Tryz.prog (owOf []) 80 = some c80 := by kernel_rfl
def c99 : RFn := ⟨(.seq (.region (Nodes.flat none (.op (some 4) (.move (.c (.int .i64 0))) 0
  .nil)) false)
 (.seq (.region (Nodes.flat none (.op (some 5) (.move (.t 0)) 0
  (.op (some 6) (.call 135 [(.t 5)]) 0
  (.op (some 7) (.move (.t 1)) 0
  (.op (some 8) (.call 135 [(.t 7)]) 0
  (.op (some 9) (.bin .or (.t 6) (.t 8)) 0
  (.op (some 4) (.move (.t 9)) 0
  .nil))))))) false)
 .ret)),
 [.tmp 4]⟩
theorem b99 : fnOf Go.Proofs.Tryz.prog (owOf []) 99 = some c99 := by kernel_rfl
def c100 : RFn := ⟨(.seq (.region (Nodes.flat none (.op (some 4) (.move (.c (.bool false))) 0
  .nil)) false)
 (.seq (.region (Nodes.flat none (.op (some 5) (.move (.t 0)) 0
  (.op (some 6) (.call 135 [(.t 5)]) 0
  (.op (some 7) (.move (.t 1)) 0
  (.op (some 8) (.call 135 [(.t 7)]) 0
  (.op (some 9) (.bin .andNot (.t 6) (.t 8)) 0
  (.op (some 10) (.bin .eql (.t 9) (.c (.int .i64 0))) 0
  (.op (some 4) (.move (.t 10)) 0
  .nil)))))))) false)
 .ret)),
 [.tmp 4]⟩
theorem b100 : fnOf Go.Proofs.Tryz.prog (owOf []) 100 = some c100 := by kernel_rfl
def c135 : RFn := ⟨(.seq (.region (Nodes.flat none (.op (some 2) (.move (.c (.int .i64 0))) 0
  .nil)) false)
 (.seq (.seq (.region (Nodes.flat none (.op (some 3) (.move (.t 0)) 0
  (.op (some 4) (.call 144 [(.t 3)]) 0
  (.op (some 5) (.un .not (.t 4)) 0
  .nil)))) false)
 (.cond (.t 5)
 (.seq (.region (Nodes.flat none (.op (some 2) (.move (.c (.int .i64 7))) 0
  .nil)) false)
 .ret)
 .skip))
 (.seq (.region (Nodes.flat none (.op (some 6) (.move (.t 0)) 0
  (.op (some 2) (.move (.t 6)) 0
  .nil))) false)
 .ret))),
 [.tmp 2]⟩
theorem b135 : fnOf Go.Proofs.Tryz.prog (owOf []) 135 = some c135 := by kernel_rfl
def c139 : RFn := ⟨(.seq (.region (Nodes.flat none (.op (some 2) (.move (.c (.lit []))) 0
  .nil)) false)
 (.seq (.region (Nodes.flat none (.op (some 3) (.move (.c (.lit []))) 0
  .nil)) false)
 (.seq (.seq (.region (Nodes.flat none (.op (some 5) (.move (.c (.int .i64 0))) 0
  .nil)) false)
 (.block 0 (.loop (.seq (.region (Nodes.flat none (.op (some 6) (.bin .lss (.t 5) (.c (.int .i64 3))) 0
  .nil)) false)
 (.seq (.cond (.t 6)
 .skip
 (.exit 0))
 (.seq (.block 1 (.seq (.region (Nodes.flat none (.op (some 7) (.move (.t 5)) 0
  (.op (some 4) (.move (.t 7)) 0
  .nil))) false)
 (.seq (.region (Nodes.flat none (.op (some 8) (.move (.t 0)) 0
  (.op (some 9) (.call 135 [(.t 8)]) 0
  (.op (some 10) (.move (.t 4)) 0
  (.op (some 11) (.conv .u64 (.t 10)) 0
  (.op (some 12) (.bin .shr (.t 9) (.t 11)) 0
  (.op (some 13) (.bin .and (.t 12) (.c (.int .i64 1))) 0
  (.op (some 14) (.bin .eql (.t 13) (.c (.int .i64 1))) 0
  .nil)))))))) false)
 (.cond (.t 14)
 (.region (Nodes.flat none (.op (some 15) (.move (.t 3)) 0
  (.op (some 16) (.move (.t 4)) 0
  (.op (some 17) (.bin .sub (.t 16) (.c (.int .i64 1))) 0
  (.op (some 18) (.bslice false 1 1 (.int .i64 0) [(0, (.t 17))]) 0
  (.op (some 19) (.append 1 (.int .i64 0) (.t 15) (.t 18)) 0
  (.op (some 3) (.move (.t 19)) 0
  .nil))))))) false)
 .skip))))
 (.region (Nodes.flat none (.op (some 20) (.bin .add (.t 5) (.c (.int .i64 1))) 0
  (.op (some 5) (.move (.t 20)) 0
  .nil))) false)))))))
 (.seq (.region (Nodes.flat none (.op (some 21) (.move (.t 3)) 0
  (.op (some 2) (.move (.t 21)) 0
  .nil))) false)
 .ret)))),
 [.tmp 2]⟩
theorem b139 : fnOf Go.Proofs.Tryz.prog (owOf [(6, 3)]) 139 = some c139 := by kernel_rfl
def c144 : RFn := ⟨(.seq (.region (Nodes.flat none (.op (some 2) (.move (.c (.bool false))) 0
  .nil)) false)
 (.seq (.region (Nodes.flat none (.op (some 3) (.move (.t 0)) 0
  (.op (some 4) (.bin .andNot (.t 3) (.c (.int .i64 7))) 0
  (.op (some 5) (.bin .eql (.t 4) (.c (.int .i64 0))) 0
  (.op (some 2) (.move (.t 5)) 0
  .nil))))) false)
 .ret)),
 [.tmp 2]⟩
theorem b144 : fnOf Go.Proofs.Tryz.prog (owOf []) 144 = some c144 := by kernel_rfl
end Go.Vm
end
section
/- Walks. -/
set_option maxRecDepth 100000
set_option linter.unusedSimpArgs false
set_option linter.unusedVariables false
namespace Go.Vm
open Go
section
variable {gl : Nat → Option PV}
set_option maxHeartbeats 4000000
theorem p_sign_Sane (s : Int) (h : i64r s) : Pure Go.Proofs.Tryz.prog gl 144 [.int .i64 s] (.bool (decide (0 ≤ s ∧ s ≤ 7))) := by
  refine Pure.fn hmix b144 ?_
  repeat' first
    | with_reducible refine tr_seq ?_
    | ((with_reducible refine tr_region_f ?_ ?_); kernel_rfl)
    | with_reducible refine n_nil ?_
    | with_reducible refine seqQ_normal ?_
    | with_reducible refine seqQ_ret ?_
    | with_reducible refine blkQ_ret ?_
    | with_reducible refine tr_ret ?_
    | ((with_reducible apply n_val); rfl; rfl)
    | ((with_reducible apply fnQ_told_ret); rfl)
    | ((with_reducible apply fnQ_ret_soft); rfl; rfl)
  exact congrArg PV.bool (sane_bits s h)
theorem p_sign_sane (s : Int) (h : i64r s) : Pure Go.Proofs.Tryz.prog gl 135 [.int .i64 s] (.int .i64 (sn s)) := by
  refine Pure.fn hmix b135 ?_
  repeat' first
    | with_reducible refine tr_seq ?_
    | ((with_reducible refine tr_region_f ?_ ?_); kernel_rfl)
    | with_reducible refine n_nil ?_
    | with_reducible refine seqQ_normal ?_
    | with_reducible refine seqQ_ret ?_
    | with_reducible refine blkQ_ret ?_
    | with_reducible refine tr_skip ?_
    | with_reducible refine tr_ret ?_
    | ((with_reducible apply tr_cond_e); rfl)
    | with_reducible refine condT_t ?_
    | with_reducible refine condT_f ?_
    | ((with_reducible apply n_val); rfl; rfl)
    | ((with_reducible apply n_call (f := 144)); rfl; rfl; exact p_sign_Sane _ h)
    | (with_reducible refine condT_split (fun h => ?_) (fun h => ?_))
    | ((with_reducible apply fnQ_told_ret); rfl)
    | ((with_reducible apply fnQ_ret_soft); rfl; rfl)
  all_goals (simp_all [sn]; try omega)
theorem p_sign_Of (c : Int) : Pure Go.Proofs.Tryz.prog gl 80 [.int .i64 c] (.int .i64 (sOf c)) := by
  refine Pure.fn hmix b80 ?_
  repeat' first
    | with_reducible refine tr_seq ?_
    | ((with_reducible refine tr_region_f ?_ ?_); kernel_rfl)
    | with_reducible refine n_nil ?_
    | with_reducible refine seqQ_normal ?_
    | with_reducible refine seqQ_ret ?_
    | with_reducible refine blkQ_normal ?_
    | with_reducible refine blkQ_ret ?_
    | with_reducible refine tr_block ?_
    | with_reducible refine tr_skip ?_
    | with_reducible refine tr_ret ?_
    | ((with_reducible apply tr_cond_e); rfl)
    | with_reducible refine condT_t ?_
    | with_reducible refine condT_f ?_
    | ((with_reducible apply n_val); rfl; rfl)
    | (with_reducible refine condT_split (fun h => ?_) (fun h => ?_))
    | ((with_reducible apply fnQ_told_ret); rfl)
    | ((with_reducible apply fnQ_ret_soft); rfl; rfl)
  all_goals (simp_all [sOf]; try omega)
theorem p_sign_Join (a b : Int) (ha : i64r a) (hb : i64r b) : Pure Go.Proofs.Tryz.prog gl 99 [.int .i64 a, .int .i64 b] (.int .i64 (sJoin a b)) := by
  refine Pure.fn hmix b99 ?_
  repeat' first
    | with_reducible refine tr_seq ?_
    | ((with_reducible refine tr_region_f ?_ ?_); kernel_rfl)
    | with_reducible refine n_nil ?_
    | with_reducible refine seqQ_normal ?_
    | with_reducible refine seqQ_ret ?_
    | with_reducible refine blkQ_ret ?_
    | with_reducible refine tr_ret ?_
    | ((with_reducible apply n_val); rfl; rfl)
    | ((with_reducible apply n_call (f := 135)); rfl; rfl; exact p_sign_sane _ ha)
    | ((with_reducible apply n_call (f := 135)); rfl; rfl; exact p_sign_sane _ hb)
    | ((with_reducible apply fnQ_told_ret); rfl)
    | ((with_reducible apply fnQ_ret_soft); rfl; rfl)
  rfl
theorem p_sign_Leq (a b : Int) (ha : i64r a) (hb : i64r b) : Pure Go.Proofs.Tryz.prog gl 100 [.int .i64 a, .int .i64 b] (.bool (sLeq a b)) := by
  refine Pure.fn hmix b100 ?_
  repeat' first
    | with_reducible refine tr_seq ?_
    | ((with_reducible refine tr_region_f ?_ ?_); kernel_rfl)
    | with_reducible refine n_nil ?_
    | with_reducible refine seqQ_normal ?_
    | with_reducible refine seqQ_ret ?_
    | with_reducible refine blkQ_ret ?_
    | with_reducible refine tr_ret ?_
    | ((with_reducible apply n_val); rfl; rfl)
    | ((with_reducible apply n_call (f := 135)); rfl; rfl; exact p_sign_sane _ ha)
    | ((with_reducible apply n_call (f := 135)); rfl; rfl; exact p_sign_sane _ hb)
    | ((with_reducible apply fnQ_told_ret); rfl)
    | ((with_reducible apply fnQ_ret_soft); rfl; rfl)
  rfl
theorem p_sign_List (s : Int) (h : i64r s) : Pure Go.Proofs.Tryz.prog gl 139 [.int .i64 s] (.sl (ints (sList s))) := by
  have hs := p_sign_sane (gl := gl) s h
  have hc := sn_cases s
  have hl : sList s = sList (sn s) := by simp [sList, sn_sn]
  rw [hl]
  generalize sn s = n at *
  refine Pure.fn hmix b139 ?_
  rcases hc with rfl | rfl | rfl | rfl | rfl | rfl | rfl | rfl
  all_goals
    repeat' first
      | with_reducible refine tr_seq ?_
      | ((with_reducible refine tr_region_f ?_ ?_); kernel_rfl)
      | with_reducible refine n_nil ?_
      | with_reducible refine seqQ_normal ?_
      | with_reducible refine seqQ_exit ?_
      | with_reducible refine seqQ_ret ?_
      | with_reducible refine blkQ_normal ?_
      | with_reducible refine blkQ_exit ?_
      | with_reducible refine blkQ_ret ?_
      | ((with_reducible refine blkQ_exit_ne ?_ ?_); rfl)
      | with_reducible refine tr_block ?_
      | with_reducible refine tr_skip ?_
      | with_reducible refine tr_exit ?_
      | with_reducible refine tr_ret ?_
      | ((with_reducible apply tr_cond_e); rfl)
      | with_reducible refine condT_t ?_
      | with_reducible refine condT_f ?_
      | ((with_reducible refine condT_T ?_ ?_); decide +kernel)
      | ((with_reducible refine condT_F ?_ ?_); decide +kernel)
      | ((with_reducible apply n_andF); rfl; rfl; decide +kernel)
      | ((with_reducible apply n_orT); rfl; rfl; decide +kernel)
      | with_reducible refine loopV_exit ?_
      | with_reducible refine loopV_ret ?_
      | with_reducible refine unrQ_normal ?_
      | with_reducible refine unrQ_exit ?_
      | with_reducible refine unrQ_ret ?_
      | refine tr_unroll 4 ?_
      | refine n_call rfl rfl hs ?_
      | ((with_reducible apply n_append_lit); rfl; rfl; rfl; rfl; rfl; decide; (simp only [hn0, hn1, hn2, List.length_cons, List.length_nil, Nat.reduceAdd, Nat.zero_add]; try rfl); rfl)
      | ((with_reducible apply n_append); rfl; rfl; rfl; rfl; rfl; rfl; decide; rfl)
      | ((with_reducible apply n_val); rfl; rfl)
      | ((with_reducible apply n_append); rfl; rfl; rfl; rfl; rfl; rfl; (first | decide | (simp only [List.length_append, List.length_cons, List.length_nil, List.length_set, List.length_replicate, ints_length] at *; omega)); rfl)
      | ((with_reducible apply n_append_lit); rfl; rfl; rfl; rfl; rfl; (first | decide | (simp only [List.length_append, List.length_cons, List.length_nil, List.length_set, List.length_replicate, ints_length] at *; omega)); (first | (simp only [hn0, hn1, hn2, hn3, hn4, hn5, List.length_cons, List.length_nil, Nat.reduceAdd, Nat.zero_add]; done) | (simp only [hn0, hn1, hn2, hn3, hn4, hn5, List.length_cons, List.length_nil, Nat.reduceAdd, Nat.zero_add]; rfl) | rfl); rfl)
      | (with_reducible refine condT_split (fun h => ?_) (fun h => ?_))
      | ((with_reducible apply fnQ_told_ret); rfl)
      | ((with_reducible apply fnQ_ret_soft); rfl; rfl)
      | ((with_reducible apply fnQ_ret_row); rfl; rfl; rfl)
  all_goals rfl
end
end Go.Vm
end
