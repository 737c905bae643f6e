/- Laid. -/
import Derived.Test.YtlcbceneacnaiaaGreatDoorVmThree
import Derived.KernelRfl
import Derived.Test.YtlcbceneacnaiaaGreatDoorProg
import Derived.Test.YtlcbceneacnaiaaGreatDoorXsignB
section
/- Code. -/
set_option maxRecDepth 100000
set_option linter.unusedSimpArgs false
set_option linter.unusedVariables false
namespace Go.Vm
open Go
def c88 : RFn := ⟨(.seq (.region (Nodes.flat none (.op (some 2) (.move (.c (.int .i64 0))) 0
  .nil)) false)
 (.seq (.seq (.region (Nodes.flat none (.op (some 3) (.move (.t 0)) 0
  (.op (some 4) (.bin .lss (.t 3) (.c (.int .i64 0))) 0
  .nil))) false)
 (.cond (.t 4)
 (.seq (.region (Nodes.flat none (.op (some 2) (.move (.c (.int .i64 1))) 0
  .nil)) false)
 .ret)
 .skip))
 (.seq (.seq (.region (Nodes.flat none (.op (some 5) (.move (.t 0)) 0
  (.op (some 6) (.bin .eql (.t 5) (.c (.int .i64 0))) 0
  .nil))) false)
 (.cond (.t 6)
 (.seq (.region (Nodes.flat none (.op (some 2) (.move (.c (.int .i64 2))) 0
  .nil)) false)
 .ret)
 .skip))
 (.seq (.region (Nodes.flat none (.op (some 2) (.move (.c (.int .i64 4))) 0
  .nil)) false)
 .ret)))),
 [.tmp 2]⟩
theorem b88 : fnOf Go.Proofs.Tryz.prog (owOf []) 88 = some c88 := by kernel_rfl
def c89 : RFn := ⟨(.seq (.region (Nodes.flat none (.op (some 2) (.move (.c (.int .i64 0))) 0
  .nil)) false)
 (.seq (.region (Nodes.flat none (.op (some 3) (.move (.c (.int .i64 0))) 0
  .nil)) false)
 (.seq (.region (Nodes.flat none (.op (some 6) (.move (.t 0)) 0
  (.op (some 7) (.call 131 [(.t 6)]) 0
  (.op (some 4) (.move (.t 7)) 0
  .nil)))) false)
 (.seq (.seq (.region (Nodes.flat none (.op (some 5) (.move (.c (.int .i64 0))) 0
  .nil)) false)
 (.block 0 (.loop (.seq (.seq (.region (Nodes.flat none (.op (some 8) (.move (.t 5)) 0
  (.op (some 9) (.move (.t 4)) 0
  (.op (some 10) (.len false (.t 9)) 0
  (.op (some 11) (.bin .lss (.t 8) (.t 10)) 0
  .nil))))) false)
 (.cond (.t 11)
 .skip
 (.exit 0)))
 (.seq (.block 1 (.region (Nodes.flat none (.op (some 14) (.move (.t 3)) 0
  (.op (some 15) (.move (.t 4)) 0
  (.op (some 16) (.move (.t 5)) 0
  (.op (some 17) (.idxAddr 1 (.t 15) (.t 16)) 0
  (.op (some 18) (.load none (.t 17)) 0
  (.op (some 19) (.un .neg (.t 18)) 0
  (.op (some 20) (.call 88 [(.t 19)]) 0
  (.op (some 21) (.bin .or (.t 14) (.t 20)) 0
  (.op (some 3) (.move (.t 21)) 0
  .nil)))))))))) false))
 (.region (Nodes.flat none (.op (some 12) (.move (.t 5)) 0
  (.op (some 13) (.bin .add (.t 12) (.c (.int .i64 1))) 0
  (.op (some 5) (.move (.t 13)) 0
  .nil)))) false))))))
 (.seq (.region (Nodes.flat none (.op (some 22) (.move (.t 3)) 0
  (.op (some 2) (.move (.t 22)) 0
  .nil))) false)
 .ret))))),
 [.tmp 2]⟩
theorem b89 : fnOf Go.Proofs.Tryz.prog (owOf []) 89 = some c89 := by kernel_rfl
def c90 : RFn := ⟨(.seq (.region (Nodes.flat none (.op (some 4) (.move (.c (.int .i64 0))) 0
  .nil)) false)
 (.seq (.region (Nodes.flat none (.op (some 5) (.move (.t 0)) 0
  (.op (some 6) (.move (.t 1)) 0
  (.op (some 7) (.call 132 [(.t 5), (.t 6), (.c (.bool false))]) 0
  (.op (some 4) (.move (.t 7)) 0
  .nil))))) false)
 .ret)),
 [.tmp 4]⟩
theorem b90 : fnOf Go.Proofs.Tryz.prog (owOf []) 90 = some c90 := by kernel_rfl
def c91 : RFn := ⟨(.seq (.region (Nodes.flat none (.op (some 4) (.move (.c (.int .i64 0))) 0
  .nil)) false)
 (.seq (.region (Nodes.flat none (.op (some 5) (.move (.t 0)) 0
  (.op (some 6) (.move (.t 1)) 0
  (.op (some 7) (.call 89 [(.t 6)]) 0
  (.op (some 8) (.call 132 [(.t 5), (.t 7), (.c (.bool false))]) 0
  (.op (some 4) (.move (.t 8)) 0
  .nil)))))) false)
 .ret)),
 [.tmp 4]⟩
theorem b91 : fnOf Go.Proofs.Tryz.prog (owOf []) 91 = some c91 := by kernel_rfl
def c92 : RFn := ⟨(.seq (.region (Nodes.flat none (.op (some 4) (.move (.c (.int .i64 0))) 0
  .nil)) false)
 (.seq (.region (Nodes.flat none (.op (some 5) (.move (.t 0)) 0
  (.op (some 6) (.move (.t 1)) 0
  (.op (some 7) (.call 132 [(.t 5), (.t 6), (.c (.bool true))]) 0
  (.op (some 4) (.move (.t 7)) 0
  .nil))))) false)
 .ret)),
 [.tmp 4]⟩
theorem b92 : fnOf Go.Proofs.Tryz.prog (owOf []) 92 = some c92 := by kernel_rfl
def c130 : RFn := ⟨(.seq (.region (Nodes.flat none (.op (some 4) (.move (.c (.int .i64 0))) 0
  .nil)) false)
 (.seq (.region (Nodes.flat none (.op (some 5) (.move (.t 0)) 0
  (.op (some 6) (.call 140 [(.t 5)]) 0
  (.op (some 7) (.move (.t 1)) 0
  (.op (some 8) (.call 140 [(.t 7)]) 0
  (.op (some 9) (.bin .or (.t 6) (.t 8)) 0
  (.op (some 4) (.move (.t 9)) 0
  .nil))))))) false)
 .ret)),
 [.tmp 4]⟩
theorem b130 : fnOf Go.Proofs.Tryz.prog (owOf []) 130 = some c130 := by kernel_rfl
def c131 : RFn := ⟨(.seq (.region (Nodes.flat none (.op (some 2) (.move (.c (.lit []))) 0
  .nil)) false)
 (.seq (.region (Nodes.flat none (.op (some 3) (.move (.c (.lit []))) 0
  .nil)) false)
 (.seq (.seq (.region (Nodes.flat none (.op (some 4) (.move (.c (.int .i64 (-1)))) 0
  .nil)) false)
 (.block 0 (.loop (.seq (.seq (.region (Nodes.flat none (.op (some 5) (.move (.t 4)) 0
  (.op (some 6) (.bin .leq (.t 5) (.c (.int .i64 1))) 0
  .nil))) false)
 (.cond (.t 6)
 .skip
 (.exit 0)))
 (.seq (.block 1 (.seq (.region (Nodes.flat none (.op (some 9) (.move (.t 0)) 0
  (.op (some 10) (.move (.t 4)) 0
  (.op (some 11) (.call 141 [(.t 9), (.t 10)]) 0
  .nil)))) false)
 (.cond (.t 11)
 (.region (Nodes.flat none (.op (some 12) (.move (.t 3)) 0
  (.op (some 13) (.move (.t 4)) 0
  (.op (some 14) (.bslice false 1 1 (.int .i64 0) [(0, (.t 13))]) 0
  (.op (some 15) (.append 1 (.int .i64 0) (.t 12) (.t 14)) 0
  (.op (some 3) (.move (.t 15)) 0
  .nil)))))) false)
 .skip)))
 (.region (Nodes.flat none (.op (some 7) (.move (.t 4)) 0
  (.op (some 8) (.bin .add (.t 7) (.c (.int .i64 1))) 0
  (.op (some 4) (.move (.t 8)) 0
  .nil)))) false))))))
 (.seq (.region (Nodes.flat none (.op (some 16) (.move (.t 3)) 0
  (.op (some 2) (.move (.t 16)) 0
  .nil))) false)
 .ret)))),
 [.tmp 2]⟩
theorem b131 : fnOf Go.Proofs.Tryz.prog (owOf [(6, 2)]) 131 = some c131 := by kernel_rfl
def c132 : RFn := ⟨(.seq (.region (Nodes.flat none (.op (some 6) (.move (.c (.int .i64 0))) 0
  .nil)) false)
 (.seq (.region (Nodes.flat none (.op (some 7) (.move (.c (.int .i64 0))) 0
  .nil)) false)
 (.seq (.region (Nodes.flat none (.op (some 12) (.move (.t 0)) 0
  (.op (some 13) (.call 142 [(.t 12)]) 0
  (.op (some 8) (.move (.t 13)) 0
  .nil)))) false)
 (.seq (.region (Nodes.flat none (.op (some 14) (.move (.t 1)) 0
  (.op (some 15) (.call 142 [(.t 14)]) 0
  (.op (some 9) (.move (.t 15)) 0
  .nil)))) false)
 (.seq (.seq (.region (Nodes.flat none (.op (some 10) (.move (.c (.int .i64 0))) 0
  .nil)) false)
 (.block 0 (.loop (.seq (.seq (.region (Nodes.flat none (.op (some 16) (.move (.t 10)) 0
  (.op (some 17) (.move (.t 8)) 0
  (.op (some 18) (.len false (.t 17)) 0
  (.op (some 19) (.bin .lss (.t 16) (.t 18)) 0
  .nil))))) false)
 (.cond (.t 19)
 .skip
 (.exit 0)))
 (.seq (.block 1 (.seq (.region (Nodes.flat none (.op (some 11) (.move (.c (.int .i64 0))) 0
  .nil)) false)
 (.block 2 (.loop (.seq (.seq (.region (Nodes.flat none (.op (some 22) (.move (.t 11)) 0
  (.op (some 23) (.move (.t 9)) 0
  (.op (some 24) (.len false (.t 23)) 0
  (.op (some 25) (.bin .lss (.t 22) (.t 24)) 0
  .nil))))) false)
 (.cond (.t 25)
 .skip
 (.exit 2)))
 (.seq (.block 3 (.seq (.region (Nodes.flat none (.op (some 28) (.move (.t 2)) 0
  .nil)) false)
 (.cond (.t 28)
 (.region (Nodes.flat none (.op (some 29) (.move (.t 7)) 0
  (.op (some 30) (.move (.t 8)) 0
  (.op (some 31) (.move (.t 10)) 0
  (.op (some 32) (.idxAddr 1 (.t 30) (.t 31)) 6
  (.op (some 33) (.load none (.t 32)) 14
  (.op (some 34) (.move (.t 9)) 0
  (.op (some 35) (.move (.t 11)) 0
  (.op (some 36) (.idxAddr 1 (.t 34) (.t 35)) 96
  (.op (some 37) (.load none (.t 36)) 224
  (.op (some 38) (.bin .mul (.t 33) (.t 37)) 510
  (.op (some 39) (.call 88 [(.t 38)]) 1022
  (.op (some 40) (.bin .or (.t 29) (.t 39)) 2047
  (.op (some 7) (.move (.t 40)) 4095
  .nil)))))))))))))) true)
 (.region (Nodes.flat none (.op (some 41) (.move (.t 7)) 0
  (.op (some 42) (.move (.t 8)) 0
  (.op (some 43) (.move (.t 10)) 0
  (.op (some 44) (.idxAddr 1 (.t 42) (.t 43)) 6
  (.op (some 45) (.load none (.t 44)) 14
  (.op (some 46) (.move (.t 9)) 0
  (.op (some 47) (.move (.t 11)) 0
  (.op (some 48) (.idxAddr 1 (.t 46) (.t 47)) 96
  (.op (some 49) (.load none (.t 48)) 224
  (.op (some 50) (.bin .add (.t 45) (.t 49)) 510
  (.op (some 51) (.call 88 [(.t 50)]) 1022
  (.op (some 52) (.bin .or (.t 41) (.t 51)) 2047
  (.op (some 7) (.move (.t 52)) 4095
  .nil)))))))))))))) true))))
 (.region (Nodes.flat none (.op (some 26) (.move (.t 11)) 0
  (.op (some 27) (.bin .add (.t 26) (.c (.int .i64 1))) 0
  (.op (some 11) (.move (.t 27)) 0
  .nil)))) false)))))))
 (.region (Nodes.flat none (.op (some 20) (.move (.t 10)) 0
  (.op (some 21) (.bin .add (.t 20) (.c (.int .i64 1))) 0
  (.op (some 10) (.move (.t 21)) 0
  .nil)))) false))))))
 (.seq (.region (Nodes.flat none (.op (some 53) (.move (.t 7)) 0
  (.op (some 6) (.move (.t 53)) 0
  .nil))) false)
 .ret)))))),
 [.tmp 6]⟩
theorem b132 : fnOf Go.Proofs.Tryz.prog (owOf []) 132 = some c132 := by kernel_rfl
def c140 : RFn := ⟨(.seq (.region (Nodes.flat none (.op (some 2) (.move (.c (.int .i64 0))) 0
  .nil)) false)
 (.seq (.seq (.region (Nodes.flat none (.op (some 3) (.move (.t 0)) 0
  (.op (some 4) (.call 148 [(.t 3)]) 0
  (.op (some 5) (.un .not (.t 4)) 0
  .nil)))) false)
 (.cond (.t 5)
 (.seq (.region (Nodes.flat none (.op (some 2) (.move (.c (.int .i64 7))) 0
  .nil)) false)
 .ret)
 .skip))
 (.seq (.region (Nodes.flat none (.op (some 6) (.move (.t 0)) 0
  (.op (some 2) (.move (.t 6)) 0
  .nil))) false)
 .ret))),
 [.tmp 2]⟩
theorem b140 : fnOf Go.Proofs.Tryz.prog (owOf []) 140 = some c140 := by kernel_rfl
def c141 : RFn := ⟨(.seq (.region (Nodes.flat none (.op (some 4) (.move (.c (.bool false))) 0
  .nil)) false)
 (.seq (.region (Nodes.flat none (.op (some 5) (.move (.t 0)) 0
  (.op (some 6) (.call 140 [(.t 5)]) 0
  (.op (some 7) (.move (.t 1)) 0
  (.op (some 8) (.call 88 [(.t 7)]) 0
  (.op (some 9) (.bin .and (.t 6) (.t 8)) 0
  (.op (some 10) (.bin .neq (.t 9) (.c (.int .i64 0))) 0
  (.op (some 4) (.move (.t 10)) 0
  .nil)))))))) false)
 .ret)),
 [.tmp 4]⟩
theorem b141 : fnOf Go.Proofs.Tryz.prog (owOf []) 141 = some c141 := by kernel_rfl
def c142 : RFn := ⟨(.seq (.region (Nodes.flat none (.op (some 2) (.move (.c (.lit []))) 0
  .nil)) false)
 (.seq (.region (Nodes.flat none (.op (some 3) (.move (.c (.lit []))) 0
  .nil)) false)
 (.seq (.seq (.region (Nodes.flat none (.op (some 4) (.move (.c (.int .i64 (-2)))) 0
  .nil)) false)
 (.block 0 (.loop (.seq (.seq (.region (Nodes.flat none (.op (some 5) (.move (.t 4)) 0
  (.op (some 6) (.bin .leq (.t 5) (.c (.int .i64 2))) 0
  .nil))) false)
 (.cond (.t 6)
 .skip
 (.exit 0)))
 (.seq (.block 1 (.seq (.region (Nodes.flat none (.op (some 9) (.move (.t 0)) 0
  (.op (some 10) (.move (.t 4)) 0
  (.op (some 11) (.call 141 [(.t 9), (.t 10)]) 0
  .nil)))) false)
 (.cond (.t 11)
 (.region (Nodes.flat none (.op (some 12) (.move (.t 3)) 0
  (.op (some 13) (.move (.t 4)) 0
  (.op (some 14) (.bslice false 1 1 (.int .i64 0) [(0, (.t 13))]) 0
  (.op (some 15) (.append 1 (.int .i64 0) (.t 12) (.t 14)) 0
  (.op (some 3) (.move (.t 15)) 0
  .nil)))))) false)
 .skip)))
 (.region (Nodes.flat none (.op (some 7) (.move (.t 4)) 0
  (.op (some 8) (.bin .add (.t 7) (.c (.int .i64 1))) 0
  (.op (some 4) (.move (.t 8)) 0
  .nil)))) false))))))
 (.seq (.region (Nodes.flat none (.op (some 16) (.move (.t 3)) 0
  (.op (some 2) (.move (.t 16)) 0
  .nil))) false)
 .ret)))),
 [.tmp 2]⟩
theorem b142 : fnOf Go.Proofs.Tryz.prog (owOf [(6, 2)]) 142 = some c142 := by kernel_rfl
def c148 : RFn := ⟨(.seq (.region (Nodes.flat none (.op (some 2) (.move (.c (.bool false))) 0
  .nil)) false)
 (.seq (.region (Nodes.flat none (.op (some 3) (.move (.t 0)) 0
  (.op (some 4) (.bin .geq (.t 3) (.c (.int .i64 0))) 0
  (.op (some 5) (.move (.t 4)) 0
  (.grd 5 true
  (.op (some 6) (.move (.t 0)) 0
  (.op (some 7) (.bin .leq (.t 6) (.c (.int .i64 7))) 0
  .nil))
  (.op (some 8) (.pick (.t 5) (.t 7) (.c (.bool false))) 0
  (.op (some 2) (.move (.t 8)) 0
  .nil))))))) false)
 .ret)),
 [.tmp 2]⟩
theorem b148 : fnOf Go.Proofs.Tryz.prog (owOf []) 148 = some c148 := by kernel_rfl
end Go.Vm
end
section
/- Walks. -/
set_option maxRecDepth 100000
set_option linter.unusedSimpArgs false
set_option linter.unusedVariables false
namespace Go.Vm
open Go
section
variable {gl : Nat → Option PV}
set_option maxHeartbeats 4000000
theorem p_rsign_Sane (s : Int) : Pure Go.Proofs.Tryz.prog gl 148 [.int .i64 s] (.bool (decide (0 ≤ s ∧ s ≤ 7))) := by
  refine Pure.fn hmix b148 ?_
  repeat' first
    | with_reducible refine tr_seq ?_
    | ((with_reducible refine tr_region_f ?_ ?_); kernel_rfl)
    | with_reducible refine n_nil ?_
    | exact ⟨rfl, rfl⟩
    | with_reducible refine seqQ_normal ?_
    | with_reducible refine seqQ_ret ?_
    | with_reducible refine blkQ_ret ?_
    | with_reducible refine tr_ret ?_
    | ((with_reducible apply n_and); rfl; rfl; intro h)
    | ((with_reducible apply n_or); rfl; rfl; intro h)
    | ((with_reducible apply n_val); rfl; rfl)
    | ((with_reducible apply fnQ_told_ret); rfl)
    | ((with_reducible apply fnQ_ret_soft); rfl; rfl)
  simp
theorem p_rsign_sane (s : Int) : Pure Go.Proofs.Tryz.prog gl 140 [.int .i64 s] (.int .i64 (sn s)) := by
  refine Pure.fn hmix b140 ?_
  repeat' first
    | with_reducible refine tr_seq ?_
    | ((with_reducible refine tr_region_f ?_ ?_); kernel_rfl)
    | with_reducible refine n_nil ?_
    | with_reducible refine seqQ_normal ?_
    | with_reducible refine seqQ_ret ?_
    | with_reducible refine blkQ_ret ?_
    | with_reducible refine tr_skip ?_
    | with_reducible refine tr_ret ?_
    | ((with_reducible apply tr_cond_e); rfl)
    | with_reducible refine condT_t ?_
    | with_reducible refine condT_f ?_
    | ((with_reducible apply n_val); rfl; rfl)
    | ((with_reducible apply n_call (f := 148)); rfl; rfl; exact p_rsign_Sane ..)
    | (with_reducible refine condT_split (fun h => ?_) (fun h => ?_))
    | ((with_reducible apply fnQ_told_ret); rfl)
    | ((with_reducible apply fnQ_ret_soft); rfl; rfl)
  all_goals (simp_all [sn]; try omega)
theorem p_rsign_Of (c : Int) : Pure Go.Proofs.Tryz.prog gl 88 [.int .i64 c] (.int .i64 (sOf c)) := by
  refine Pure.fn hmix b88 ?_
  repeat' first
    | with_reducible refine tr_seq ?_
    | ((with_reducible refine tr_region_f ?_ ?_); kernel_rfl)
    | with_reducible refine n_nil ?_
    | with_reducible refine seqQ_normal ?_
    | with_reducible refine seqQ_ret ?_
    | with_reducible refine blkQ_ret ?_
    | with_reducible refine tr_skip ?_
    | with_reducible refine tr_ret ?_
    | ((with_reducible apply tr_cond_e); rfl)
    | with_reducible refine condT_t ?_
    | with_reducible refine condT_f ?_
    | ((with_reducible apply n_val); rfl; rfl)
    | (with_reducible refine condT_split (fun h => ?_) (fun h => ?_))
    | ((with_reducible apply fnQ_told_ret); rfl)
    | ((with_reducible apply fnQ_ret_soft); rfl; rfl)
  all_goals (simp_all [sOf]; try omega)
def bHas (n c : Int) : Bool := IntKind.i64.wrap ((BitVec.ofInt 64 n &&& BitVec.ofInt 64 (sOf c)).toNat : Int) != 0
theorem p_rsign_has (s c : Int) : Pure Go.Proofs.Tryz.prog gl 141 [.int .i64 s, .int .i64 c] (.bool (bHas (sn s) c)) := by
  refine Pure.fn hmix b141 ?_
  repeat' first
    | with_reducible refine tr_seq ?_
    | ((with_reducible refine tr_region_f ?_ ?_); kernel_rfl)
    | with_reducible refine n_nil ?_
    | with_reducible refine seqQ_normal ?_
    | with_reducible refine seqQ_ret ?_
    | with_reducible refine blkQ_ret ?_
    | with_reducible refine tr_ret ?_
    | ((with_reducible apply n_val); rfl; rfl)
    | ((with_reducible apply n_call (f := 140)); rfl; rfl; exact p_rsign_sane ..)
    | ((with_reducible apply n_call (f := 88)); rfl; rfl; exact p_rsign_Of ..)
    | ((with_reducible apply fnQ_told_ret); rfl)
    | ((with_reducible apply fnQ_ret_soft); rfl; rfl)
  rfl
theorem p_rsign_Join (a b : Int) : Pure Go.Proofs.Tryz.prog gl 130 [.int .i64 a, .int .i64 b] (.int .i64 (sJoin a b)) := by
  refine Pure.fn hmix b130 ?_
  repeat' first
    | with_reducible refine tr_seq ?_
    | ((with_reducible refine tr_region_f ?_ ?_); kernel_rfl)
    | with_reducible refine n_nil ?_
    | with_reducible refine seqQ_normal ?_
    | with_reducible refine seqQ_ret ?_
    | with_reducible refine blkQ_ret ?_
    | with_reducible refine tr_ret ?_
    | ((with_reducible apply n_val); rfl; rfl)
    | ((with_reducible apply n_call (f := 140)); rfl; rfl; exact p_rsign_sane ..)
    | ((with_reducible apply fnQ_told_ret); rfl)
    | ((with_reducible apply fnQ_ret_soft); rfl; rfl)
  rfl
def rList (s : Int) : List Int := [-1, 0, 1].filter (bHas (sn s))
def rSome (s : Int) : List Int := [-2, -1, 0, 1, 2].filter (bHas (sn s))
theorem p_rsign_List (s : Int) : Pure Go.Proofs.Tryz.prog gl 131 [.int .i64 s] (.sl (ints (rList s))) := by
  refine Pure.fn hmix b131 ?_
  unfold rList
  have hs := p_rsign_has (gl := gl) s
  generalize bHas (sn s) = p at *
  repeat' first
    | with_reducible refine tr_seq ?_
    | ((with_reducible refine tr_region_f ?_ ?_); kernel_rfl)
    | with_reducible refine n_nil ?_
    | with_reducible refine seqQ_normal ?_
    | with_reducible refine seqQ_exit ?_
    | with_reducible refine seqQ_ret ?_
    | with_reducible refine blkQ_normal ?_
    | with_reducible refine blkQ_exit ?_
    | with_reducible refine blkQ_ret ?_
    | ((with_reducible refine blkQ_exit_ne ?_ ?_); rfl)
    | with_reducible refine tr_block ?_
    | with_reducible refine tr_skip ?_
    | with_reducible refine tr_exit ?_
    | with_reducible refine tr_ret ?_
    | ((with_reducible apply tr_cond_e); rfl)
    | with_reducible refine condT_t ?_
    | with_reducible refine condT_f ?_
    | with_reducible refine loopV_exit ?_
    | with_reducible refine loopV_ret ?_
    | refine n_call rfl rfl (hs _) ?_
    | (refine tr_virt 3 1 0 rfl (by omega) rfl ?_; refine tr_loop_v (α := Int × List PV × Nat) 1 (fun | (i, l, g) => [(4, some (.int .i64 i)), (3, some (.ref 0 g 0 l.length)), (5, none), (6, none), (9, none), (10, none), (11, none), (12, none), (13, none), (14, none), (15, none), (7, none), (8, none)]) (fun | (i, l, g) => [some ⟨g, 1, l⟩]) (fun | (i, l, g) => -1 ≤ i ∧ i ≤ 2 ∧ l = ints (([-1, 0, 1].take (i + 1).toNat).filter p) ∧ l.all pureE = true ∧ l.length ≤ 10) (fun | (i, l, g) => (2 - i).toNat) ((-1, [], 0)) (ks := [4, 3, 5, 6, 9, 10, 11, 12, 13, 14, 15, 7, 8]) (fun _ => rfl) (fun _ => rfl) rfl (by omega) ?_ ⟨⟨_, rfl, rfl⟩, ⟨_, rfl, rfl⟩, trivial⟩ ⟨⟨_, rfl, rfl, rfl, (by first |  rfl | exact fzP_pure (ints_pure _) | exact fzP_pure (u64s_pure _) | exact fzP_pure (by assumption) | exact fzP_pure (by first | (simp [pureE, pure1, ints]; done) | (simp_all [pe_int, pe_bool, pe_str, pe_sl, pe_agg, p1_int, p1_bool, p1_str, p1_sl]; done)))⟩, trivial⟩ ?_; rotate_left; rintro ⟨i, l, g⟩ hx; try dsimp only at hx)
    | ((first | (refine loopV_normal ((_, _, _)) ?_ ⟨⟨_, rfl, rfl⟩, ⟨_, rfl, rfl⟩, trivial⟩ ⟨⟨_, rfl, rfl, rfl, (by first |  rfl | exact fzP_pure (ints_pure _) | exact fzP_pure (u64s_pure _) | exact fzP_pure (by assumption) | exact fzP_pure (by first | (simp [pureE, pure1, ints]; done) | (simp_all [pe_int, pe_bool, pe_str, pe_sl, pe_agg, p1_int, p1_bool, p1_str, p1_sl]; done)))⟩, trivial⟩ ?_ ?_)); repeat (first | exact only_refl | refine only_put rfl ?_ | refine only_less rfl ?_ | refine only_ov rfl ?_))
    | ((with_reducible apply n_val); rfl; rfl)
    | ((with_reducible apply n_append); rfl; rfl; rfl; rfl; rfl; rfl; (first | decide | (simp only [List.length_append, List.length_cons, List.length_nil, List.length_set, List.length_replicate, ints_length] at *; omega)); rfl)
    | ((with_reducible apply n_append_lit); rfl; rfl; rfl; rfl; rfl; (first | decide | (simp only [List.length_append, List.length_cons, List.length_nil, List.length_set, List.length_replicate, ints_length] at *; omega)); (first | (simp only [hn0, hn1, hn2, hn3, hn4, hn5, List.length_cons, List.length_nil, Nat.reduceAdd, Nat.zero_add]; done) | (simp only [hn0, hn1, hn2, hn3, hn4, hn5, List.length_cons, List.length_nil, Nat.reduceAdd, Nat.zero_add]; rfl) | rfl); rfl)
    | (with_reducible refine condT_split (fun h => ?_) (fun h => ?_))
    | ((with_reducible apply fnQ_told_ret); rfl)
    | ((with_reducible apply fnQ_ret_soft); rfl; rfl)
    | ((with_reducible apply fnQ_ret_row); rfl; rfl; rfl)
  all_goals (try dsimp only at *)
  all_goals (try simp only [decide_eq_true_eq, decide_eq_false_iff_not] at *)
  · rw [wrap_i64_of (by omega)]; omega
  · have hi : i = -1 ∨ i = 0 ∨ i = 1 := by omega
    rw [wrap_i64_of (by omega)]
    have hpi : p i = true := by assumption
    obtain ⟨_, _, h3, h4, h5⟩ := hx
    have hl : l.length ≤ (i + 3).toNat := by
      rw [h3, ints_length]
      exact Nat.le_trans (List.length_filter_le _ _) (by rw [List.length_take]; omega)
    refine ⟨by omega, by omega, ?_, by simp [h4, pe_int], by simp; omega⟩
    have e : ([-1, 0, 1] : List Int).take (i + 1 + 1).toNat = ([-1, 0, 1] : List Int).take (i + 1).toNat ++ [i] := by rcases hi with rfl | rfl | rfl <;> rfl
    rw [h3, e, List.filter_append]
    simp [ints, hpi]
  · rw [wrap_i64_of (by omega)]; omega
  · have hi : i = -1 ∨ i = 0 ∨ i = 1 := by omega
    rw [wrap_i64_of (by omega)]
    have hpi : p i = false := by assumption
    obtain ⟨_, _, h3, h4, h5⟩ := hx
    refine ⟨by omega, by omega, ?_, h4, h5⟩
    have e : ([-1, 0, 1] : List Int).take (i + 1 + 1).toNat = ([-1, 0, 1] : List Int).take (i + 1).toNat ++ [i] := by rcases hi with rfl | rfl | rfl <;> rfl
    rw [h3, e, List.filter_append]
    simp [hpi]
  · exact hx.2.2.2.1
  · have hi : i = 2 := by omega
    subst hi
    rw [hx.2.2.1]
    rfl
  · simp [ints]
theorem p_rsign_some (s : Int) : Pure Go.Proofs.Tryz.prog gl 142 [.int .i64 s] (.sl (ints (rSome s))) := by
  refine Pure.fn hmix b142 ?_
  unfold rSome
  have hs := p_rsign_has (gl := gl) s
  generalize bHas (sn s) = p at *
  repeat' first
    | with_reducible refine tr_seq ?_
    | ((with_reducible refine tr_region_f ?_ ?_); kernel_rfl)
    | with_reducible refine n_nil ?_
    | with_reducible refine seqQ_normal ?_
    | with_reducible refine seqQ_exit ?_
    | with_reducible refine seqQ_ret ?_
    | with_reducible refine blkQ_normal ?_
    | with_reducible refine blkQ_exit ?_
    | with_reducible refine blkQ_ret ?_
    | ((with_reducible refine blkQ_exit_ne ?_ ?_); rfl)
    | with_reducible refine tr_block ?_
    | with_reducible refine tr_skip ?_
    | with_reducible refine tr_exit ?_
    | with_reducible refine tr_ret ?_
    | ((with_reducible apply tr_cond_e); rfl)
    | with_reducible refine condT_t ?_
    | with_reducible refine condT_f ?_
    | with_reducible refine loopV_exit ?_
    | with_reducible refine loopV_ret ?_
    | refine n_call rfl rfl (hs _) ?_
    | (refine tr_virt 3 1 0 rfl (by omega) rfl ?_; refine tr_loop_v (α := Int × List PV × Nat) 1 (fun | (i, l, g) => [(4, some (.int .i64 i)), (3, some (.ref 0 g 0 l.length)), (5, none), (6, none), (9, none), (10, none), (11, none), (12, none), (13, none), (14, none), (15, none), (7, none), (8, none)]) (fun | (i, l, g) => [some ⟨g, 1, l⟩]) (fun | (i, l, g) => -2 ≤ i ∧ i ≤ 3 ∧ l = ints (([-2, -1, 0, 1, 2].take (i + 2).toNat).filter p) ∧ l.all pureE = true ∧ l.length ≤ 10) (fun | (i, l, g) => (3 - i).toNat) ((-2, [], 0)) (ks := [4, 3, 5, 6, 9, 10, 11, 12, 13, 14, 15, 7, 8]) (fun _ => rfl) (fun _ => rfl) rfl (by omega) ?_ ⟨⟨_, rfl, rfl⟩, ⟨_, rfl, rfl⟩, trivial⟩ ⟨⟨_, rfl, rfl, rfl, (by first |  rfl | exact fzP_pure (ints_pure _) | exact fzP_pure (u64s_pure _) | exact fzP_pure (by assumption) | exact fzP_pure (by first | (simp [pureE, pure1, ints]; done) | (simp_all [pe_int, pe_bool, pe_str, pe_sl, pe_agg, p1_int, p1_bool, p1_str, p1_sl]; done)))⟩, trivial⟩ ?_; rotate_left; rintro ⟨i, l, g⟩ hx; try dsimp only at hx)
    | ((first | (refine loopV_normal ((_, _, _)) ?_ ⟨⟨_, rfl, rfl⟩, ⟨_, rfl, rfl⟩, trivial⟩ ⟨⟨_, rfl, rfl, rfl, (by first |  rfl | exact fzP_pure (ints_pure _) | exact fzP_pure (u64s_pure _) | exact fzP_pure (by assumption) | exact fzP_pure (by first | (simp [pureE, pure1, ints]; done) | (simp_all [pe_int, pe_bool, pe_str, pe_sl, pe_agg, p1_int, p1_bool, p1_str, p1_sl]; done)))⟩, trivial⟩ ?_ ?_)); repeat (first | exact only_refl | refine only_put rfl ?_ | refine only_less rfl ?_ | refine only_ov rfl ?_))
    | ((with_reducible apply n_val); rfl; rfl)
    | ((with_reducible apply n_append); rfl; rfl; rfl; rfl; rfl; rfl; (first | decide | (simp only [List.length_append, List.length_cons, List.length_nil, List.length_set, List.length_replicate, ints_length] at *; omega)); rfl)
    | ((with_reducible apply n_append_lit); rfl; rfl; rfl; rfl; rfl; (first | decide | (simp only [List.length_append, List.length_cons, List.length_nil, List.length_set, List.length_replicate, ints_length] at *; omega)); (first | (simp only [hn0, hn1, hn2, hn3, hn4, hn5, List.length_cons, List.length_nil, Nat.reduceAdd, Nat.zero_add]; done) | (simp only [hn0, hn1, hn2, hn3, hn4, hn5, List.length_cons, List.length_nil, Nat.reduceAdd, Nat.zero_add]; rfl) | rfl); rfl)
    | (with_reducible refine condT_split (fun h => ?_) (fun h => ?_))
    | ((with_reducible apply fnQ_told_ret); rfl)
    | ((with_reducible apply fnQ_ret_soft); rfl; rfl)
    | ((with_reducible apply fnQ_ret_row); rfl; rfl; rfl)
  all_goals (try dsimp only at *)
  all_goals (try simp only [decide_eq_true_eq, decide_eq_false_iff_not] at *)
  · rw [wrap_i64_of (by omega)]; omega
  · have hi : i = -2 ∨ i = -1 ∨ i = 0 ∨ i = 1 ∨ i = 2 := by omega
    rw [wrap_i64_of (by omega)]
    have hpi : p i = true := by assumption
    obtain ⟨_, _, h3, h4, h5⟩ := hx
    have hl : l.length ≤ (i + 3).toNat := by
      rw [h3, ints_length]
      exact Nat.le_trans (List.length_filter_le _ _) (by rw [List.length_take]; omega)
    refine ⟨by omega, by omega, ?_, by simp [h4, pe_int], by simp; omega⟩
    have e : ([-2, -1, 0, 1, 2] : List Int).take (i + 1 + 2).toNat = ([-2, -1, 0, 1, 2] : List Int).take (i + 2).toNat ++ [i] := by rcases hi with rfl | rfl | rfl | rfl | rfl <;> rfl
    rw [h3, e, List.filter_append]
    simp [ints, hpi]
  · rw [wrap_i64_of (by omega)]; omega
  · have hi : i = -2 ∨ i = -1 ∨ i = 0 ∨ i = 1 ∨ i = 2 := by omega
    rw [wrap_i64_of (by omega)]
    have hpi : p i = false := by assumption
    obtain ⟨_, _, h3, h4, h5⟩ := hx
    refine ⟨by omega, by omega, ?_, h4, h5⟩
    have e : ([-2, -1, 0, 1, 2] : List Int).take (i + 1 + 2).toNat = ([-2, -1, 0, 1, 2] : List Int).take (i + 2).toNat ++ [i] := by rcases hi with rfl | rfl | rfl | rfl | rfl <;> rfl
    rw [h3, e, List.filter_append]
    simp [hpi]
  · exact hx.2.2.2.1
  · have hi : i = 3 := by omega
    subst hi
    rw [hx.2.2.1]
    rfl
  · simp [ints]
theorem rList_eq (s : Int) : rList s = sList s := by
  have h : sList s = sList (sn s) := by simp [sList, sn_sn]
  have h2 : rList s = rList (sn s) := by simp [rList, sn_sn]
  rw [h, h2]
  rcases sn_cases s with h | h | h | h | h | h | h | h <;> rw [h] <;> decide +kernel
theorem rSome_mem (s : Int) (i : Nat) (h : i < (rSome s).length) : -2 ≤ (rSome s).getD i 0 ∧ (rSome s).getD i 0 ≤ 2 := by
  have : (rSome s).getD i 0 ∈ rSome s := by
    rw [List.getD_eq_getElem?_getD, List.getElem?_eq_getElem h]
    exact List.getElem_mem h
  have h2 : (rSome s).getD i 0 ∈ ([-2, -1, 0, 1, 2] : List Int) := (List.mem_filter.1 this).1
  generalize (rSome s).getD i 0 = x at *
  simp at h2
  omega
theorem rSome_len (s : Int) : (rSome s).length ≤ 5 := List.length_filter_le _ _
def rOp (tm : Bool) (x y : Int) : Int := sOf (if tm then x * y else x + y)
def rIn (tm : Bool) (lb : List Int) (o x : Int) : Int := lb.foldl (fun o y => sOr o (rOp tm x y)) o
def rFold (tm : Bool) (la lb : List Int) : Int := la.foldl (fun o x => rIn tm lb o x) 0
theorem p_rsign_pairs (a b : Int) (tm : Bool) : Pure Go.Proofs.Tryz.prog gl 132 [.int .i64 a, .int .i64 b, .bool tm] (.int .i64 (rFold tm (rSome a) (rSome b))) := by
  refine Pure.fn hmix b132 ?_
  have ma := rSome_mem a
  have mb := rSome_mem b
  have na := rSome_len a
  have nb := rSome_len b
  have la := p_rsign_some (gl := gl) a
  have lb := p_rsign_some (gl := gl) b
  generalize rSome a = A at *
  generalize rSome b = B at *
  repeat' first
    | with_reducible refine tr_seq ?_
    | ((with_reducible refine tr_region_f ?_ ?_); kernel_rfl)
    | ((with_reducible refine tr_region_t ?_ ?_ ?_); kernel_rfl; kernel_rfl)
    | with_reducible refine n_nil ?_
    | with_reducible refine seqQ_normal ?_
    | with_reducible refine seqQ_exit ?_
    | with_reducible refine seqQ_ret ?_
    | with_reducible refine blkQ_normal ?_
    | with_reducible refine blkQ_exit ?_
    | with_reducible refine blkQ_ret ?_
    | ((with_reducible refine blkQ_exit_ne ?_ ?_); rfl)
    | with_reducible refine tr_block ?_
    | with_reducible refine tr_skip ?_
    | with_reducible refine tr_exit ?_
    | with_reducible refine tr_ret ?_
    | ((with_reducible apply tr_cond_e); rfl)
    | with_reducible refine condT_t ?_
    | with_reducible refine condT_f ?_
    | with_reducible refine loopV_exit ?_
    | with_reducible refine loopV_ret ?_
    | refine n_call rfl rfl la ?_
    | refine n_call rfl rfl lb ?_
    | ((with_reducible apply n_idx_ints); rfl; rfl; (simp only [decide_eq_true_eq] at *; omega))
    | (refine tr_loop_v (α := Int × Int) 0 (fun | (i, o) => [(10, some (.int .i64 i)), (7, some (.int .i64 o)), (16, none), (17, none), (18, none), (19, none), (11, none), (22, none), (23, none), (24, none), (25, none), (28, none), (29, none), (30, none), (31, none), (32, none), (33, none), (34, none), (35, none), (36, none), (37, none), (38, none), (39, none), (40, none), (41, none), (42, none), (43, none), (44, none), (45, none), (46, none), (47, none), (48, none), (49, none), (50, none), (51, none), (52, none), (26, none), (27, none), (20, none), (21, none)]) (fun | (i, o) => []) (fun | (i, o) => 0 ≤ i ∧ i ≤ A.length ∧ o = rFold tm (A.take i.toNat) B) (fun | (i, o) => (A.length - i).toNat) ((0, 0)) (ks := [10, 7, 16, 17, 18, 19, 11, 22, 23, 24, 25, 28, 29, 30, 31, 32, 33, 34, 35, 36, 37, 38, 39, 40, 41, 42, 43, 44, 45, 46, 47, 48, 49, 50, 51, 52, 26, 27, 20, 21]) (fun _ => rfl) (fun _ => rfl) rfl (by omega) ?_ ⟨⟨_, rfl, rfl⟩, ⟨_, rfl, rfl⟩, trivial⟩ trivial ?_; rotate_left; rintro ⟨i, o⟩ hx; try dsimp only at hx)
    | ((first | (refine loopV_normal ((_, _)) ?_ ⟨⟨_, rfl, rfl⟩, ⟨_, rfl, rfl⟩, trivial⟩ trivial ?_ ?_)); repeat (first | exact only_refl | refine only_put rfl ?_ | refine only_less rfl ?_ | refine only_ov rfl ?_))
    | (refine tr_loop_v (α := Int × Int) 0 (fun | (j, p) => [(11, some (.int .i64 j)), (7, some (.int .i64 p)), (22, none), (23, none), (24, none), (25, none), (28, none), (29, none), (30, none), (31, none), (32, none), (33, none), (34, none), (35, none), (36, none), (37, none), (38, none), (39, none), (40, none), (41, none), (42, none), (43, none), (44, none), (45, none), (46, none), (47, none), (48, none), (49, none), (50, none), (51, none), (52, none), (26, none), (27, none)]) (fun | (j, p) => []) (fun | (j, p) => 0 ≤ j ∧ j ≤ B.length ∧ p = rIn tm (B.take j.toNat) o (A.getD i.toNat 0)) (fun | (j, p) => (B.length - j).toNat) ((0, o)) (ks := [11, 7, 22, 23, 24, 25, 28, 29, 30, 31, 32, 33, 34, 35, 36, 37, 38, 39, 40, 41, 42, 43, 44, 45, 46, 47, 48, 49, 50, 51, 52, 26, 27]) (fun _ => rfl) (fun _ => rfl) rfl (by omega) ?_ ⟨⟨_, rfl, rfl⟩, ⟨_, rfl, rfl⟩, trivial⟩ trivial ?_; rotate_left; rintro ⟨j, p⟩ hx; try dsimp only at hx)
    | ((first | (refine loopV_normal ((_, _)) ?_ ⟨⟨_, rfl, rfl⟩, ⟨_, rfl, rfl⟩, trivial⟩ trivial ?_ ?_)); repeat (first | exact only_refl | refine only_put rfl ?_ | refine only_less rfl ?_ | refine only_ov rfl ?_))
    | ((with_reducible apply n_val); rfl; rfl)
    | ((with_reducible apply n_call (f := 88)); rfl; rfl; exact p_rsign_Of ..)
    | (with_reducible refine condT_split (fun h => ?_) (fun h => ?_))
    | ((with_reducible apply fnQ_told_ret); rfl)
    | ((with_reducible apply fnQ_ret_soft); rfl; rfl)
  all_goals (try dsimp only at *)
  all_goals (try simp only [decide_eq_true_eq, decide_eq_false_iff_not, ints_length] at *)
  · rw [wrap_i64_of (by omega)]; omega
  · have b1 := ma i.toNat (by omega)
    have b2 := mb j.toNat (by omega)
    rw [wrap_i64_of (by omega), take_snoc (by omega) (by omega)]
    refine ⟨by omega, by omega, ?_⟩
    have hm : IntKind.i64.wrap (A.getD i.toNat 0 * B.getD j.toNat 0) = A.getD i.toNat 0 * B.getD j.toNat 0 := by
      generalize A.getD i.toNat 0 = x at *
      generalize B.getD j.toNat 0 = y at *
      have : x = -2 ∨ x = -1 ∨ x = 0 ∨ x = 1 ∨ x = 2 := by omega
      rw [IntKind.wrap_i64]
      rcases this with rfl | rfl | rfl | rfl | rfl <;> omega
    rw [hm, hx.2.2]
    have htm : tm = true := by assumption
    subst htm
    simp only [rIn, List.foldl_append, List.foldl_cons, List.foldl_nil, rOp, if_true]
    rfl
  · rw [wrap_i64_of (by omega)]; omega
  · have b1 := ma i.toNat (by omega)
    have b2 := mb j.toNat (by omega)
    rw [wrap_i64_of (by omega), take_snoc (by omega) (by omega)]
    refine ⟨by omega, by omega, ?_⟩
    rw [show IntKind.i64.wrap (A.getD i.toNat 0 + B.getD j.toNat 0) = A.getD i.toNat 0 + B.getD j.toNat 0 from wrap_i64_of (by omega), hx.2.2]
    have htm : tm = false := by assumption
    subst htm
    simp only [rIn, List.foldl_append, List.foldl_cons, List.foldl_nil, rOp, Bool.false_eq_true, if_false]
    rfl
  · rw [wrap_i64_of (by omega)]; omega
  · have hy : 0 ≤ i ∧ i ≤ (A.length : Int) ∧ o = rFold tm (List.take i.toNat A) B := by assumption
    rw [wrap_i64_of (by omega), take_snoc (by omega) (by omega)]
    refine ⟨by omega, by omega, ?_⟩
    have hj : j = B.length := by omega
    rw [hx.2.2, take_all hj, hy.2.2]
    simp only [rFold, List.foldl_append, List.foldl_cons, List.foldl_nil]
  · exact ⟨by omega, by omega, rfl⟩
  · rw [hx.2.2, take_all (by omega)]
  · exact ⟨by omega, by omega, rfl⟩
def rNeg (s : Int) : Int := (rList s).foldl (fun o x => sOr o (sOf (-x))) 0
theorem p_rsign_Neg (a : Int) : Pure Go.Proofs.Tryz.prog gl 89 [.int .i64 a] (.int .i64 (rNeg a)) := by
  refine Pure.fn hmix b89 ?_
  have ma := sList_mem a
  have na := sList_len a
  have la := p_rsign_List (gl := gl) a
  rw [← rList_eq] at ma na
  unfold rNeg
  generalize rList a = A at *
  repeat' first
    | with_reducible refine tr_seq ?_
    | ((with_reducible refine tr_region_f ?_ ?_); kernel_rfl)
    | with_reducible refine n_nil ?_
    | with_reducible refine seqQ_normal ?_
    | with_reducible refine seqQ_exit ?_
    | with_reducible refine seqQ_ret ?_
    | with_reducible refine blkQ_normal ?_
    | with_reducible refine blkQ_exit ?_
    | with_reducible refine blkQ_ret ?_
    | ((with_reducible refine blkQ_exit_ne ?_ ?_); rfl)
    | with_reducible refine tr_block ?_
    | with_reducible refine tr_skip ?_
    | with_reducible refine tr_exit ?_
    | with_reducible refine tr_ret ?_
    | ((with_reducible apply tr_cond_e); rfl)
    | with_reducible refine condT_t ?_
    | with_reducible refine condT_f ?_
    | with_reducible refine loopV_exit ?_
    | with_reducible refine loopV_ret ?_
    | refine n_call rfl rfl la ?_
    | ((with_reducible apply n_idx_ints); rfl; rfl; (simp only [decide_eq_true_eq] at *; omega))
    | (refine tr_loop_v (α := Int × Int) 0 (fun | (i, o) => [(5, some (.int .i64 i)), (3, some (.int .i64 o)), (8, none), (9, none), (10, none), (11, none), (14, none), (15, none), (16, none), (17, none), (18, none), (19, none), (20, none), (21, none), (12, none), (13, none)]) (fun | (i, o) => []) (fun | (i, o) => 0 ≤ i ∧ i ≤ A.length ∧ o = (A.take i.toNat).foldl (fun o x => sOr o (sOf (-x))) 0) (fun | (i, o) => (A.length - i).toNat) ((0, 0)) (ks := [5, 3, 8, 9, 10, 11, 14, 15, 16, 17, 18, 19, 20, 21, 12, 13]) (fun _ => rfl) (fun _ => rfl) rfl (by omega) ?_ ⟨⟨_, rfl, rfl⟩, ⟨_, rfl, rfl⟩, trivial⟩ trivial ?_; rotate_left; rintro ⟨i, o⟩ hx; try dsimp only at hx)
    | ((first | (refine loopV_normal ((_, _)) ?_ ⟨⟨_, rfl, rfl⟩, ⟨_, rfl, rfl⟩, trivial⟩ trivial ?_ ?_)); repeat (first | exact only_refl | refine only_put rfl ?_ | refine only_less rfl ?_ | refine only_ov rfl ?_))
    | ((with_reducible apply n_val); rfl; rfl)
    | ((with_reducible apply n_call (f := 88)); rfl; rfl; exact p_rsign_Of ..)
    | (with_reducible refine condT_split (fun h => ?_) (fun h => ?_))
    | ((with_reducible apply fnQ_told_ret); rfl)
    | ((with_reducible apply fnQ_ret_soft); rfl; rfl)
  all_goals (try dsimp only at *)
  all_goals (try simp only [decide_eq_true_eq, decide_eq_false_iff_not, ints_length] at *)
  · rw [wrap_i64_of (by omega)]; omega
  · have b1 := ma i.toNat (by omega)
    rw [wrap_i64_of (by omega), take_snoc (by omega) (by omega)]
    refine ⟨by omega, by omega, ?_⟩
    rw [show IntKind.i64.wrap (0 - A.getD i.toNat 0) = 0 - A.getD i.toNat 0 from wrap_i64_of (by omega), hx.2.2]
    simp only [List.foldl_append, List.foldl_cons, List.foldl_nil, Int.zero_sub]
    rfl
  · rw [hx.2.2, take_all (by omega)]
  · exact ⟨by omega, by omega, rfl⟩
theorem p_rsign_Add (a b : Int) : Pure Go.Proofs.Tryz.prog gl 90 [.int .i64 a, .int .i64 b] (.int .i64 (rFold false (rSome a) (rSome b))) := by
  refine Pure.fn hmix b90 ?_
  repeat' first
    | with_reducible refine tr_seq ?_
    | ((with_reducible refine tr_region_f ?_ ?_); kernel_rfl)
    | with_reducible refine n_nil ?_
    | with_reducible refine seqQ_normal ?_
    | with_reducible refine seqQ_ret ?_
    | with_reducible refine blkQ_ret ?_
    | with_reducible refine tr_ret ?_
    | ((with_reducible apply n_val); rfl; rfl)
    | ((with_reducible apply n_call (f := 132)); rfl; rfl; exact p_rsign_pairs ..)
    | ((with_reducible apply fnQ_told_ret); rfl)
    | ((with_reducible apply fnQ_ret_soft); rfl; rfl)
  rfl
theorem p_rsign_Mul (a b : Int) : Pure Go.Proofs.Tryz.prog gl 92 [.int .i64 a, .int .i64 b] (.int .i64 (rFold true (rSome a) (rSome b))) := by
  refine Pure.fn hmix b92 ?_
  repeat' first
    | with_reducible refine tr_seq ?_
    | ((with_reducible refine tr_region_f ?_ ?_); kernel_rfl)
    | with_reducible refine n_nil ?_
    | with_reducible refine seqQ_normal ?_
    | with_reducible refine seqQ_ret ?_
    | with_reducible refine blkQ_ret ?_
    | with_reducible refine tr_ret ?_
    | ((with_reducible apply n_val); rfl; rfl)
    | ((with_reducible apply n_call (f := 132)); rfl; rfl; exact p_rsign_pairs ..)
    | ((with_reducible apply fnQ_told_ret); rfl)
    | ((with_reducible apply fnQ_ret_soft); rfl; rfl)
  rfl
theorem p_rsign_Sub (a b : Int) : Pure Go.Proofs.Tryz.prog gl 91 [.int .i64 a, .int .i64 b] (.int .i64 (rFold false (rSome a) (rSome (rNeg b)))) := by
  refine Pure.fn hmix b91 ?_
  repeat' first
    | with_reducible refine tr_seq ?_
    | ((with_reducible refine tr_region_f ?_ ?_); kernel_rfl)
    | with_reducible refine n_nil ?_
    | with_reducible refine seqQ_normal ?_
    | with_reducible refine seqQ_ret ?_
    | with_reducible refine blkQ_ret ?_
    | with_reducible refine tr_ret ?_
    | ((with_reducible apply n_val); rfl; rfl)
    | ((with_reducible apply n_call (f := 89)); rfl; rfl; exact p_rsign_Neg ..)
    | ((with_reducible apply n_call (f := 132)); rfl; rfl; exact p_rsign_pairs ..)
    | ((with_reducible apply fnQ_told_ret); rfl)
    | ((with_reducible apply fnQ_ret_soft); rfl; rfl)
  rfl
end
end Go.Vm
end
