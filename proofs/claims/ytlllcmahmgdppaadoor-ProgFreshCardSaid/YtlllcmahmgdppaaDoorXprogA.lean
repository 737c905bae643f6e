/- Laid. -/
import Derived.Test.YtlllcmahmgdppaaDoorVmThree
import Derived.KernelRfl
import Derived.Test.YtlllcmahmgdppaaDoorProg
import Derived.Test.YtlllcmahmgdppaaDoorXinstrN
import Derived.Test.YtlllcmahmgdppaaDoorLAll
section
/- Code. -/
set_option maxRecDepth 100000
set_option linter.unusedSimpArgs false
set_option linter.unusedVariables false
namespace Go.Vm
open Go
def c21 : RFn := ⟨(.seq (.region (Nodes.flat none (.op (some 2) (.box (.t 0)) 0
  (.op (some 4) (.move (.c (.bool false))) 0
  .nil))) false)
 (.seq (.region (Nodes.flat none (.op (some 5) (.move (.t 1)) 0
  (.op (some 6) (.bin .geq (.t 5) (.c (.int .i64 0))) 0
  (.op (some 7) (.move (.t 6)) 0
  (.grd 7 true
  (.op (some 8) (.move (.t 1)) 0
  (.op (some 9) (.fieldAddr 2 (.t 2)) 0
  (.op (some 10) (.load none (.t 9)) 0
  (.op (some 11) (.len false (.t 10)) 0
  (.op (some 12) (.bin .lss (.t 8) (.t 11)) 0
  .nil)))))
  (.op (some 13) (.pick (.t 7) (.t 12) (.c (.bool false))) 0
  (.op (some 14) (.move (.t 13)) 0
  (.grd 14 true
  (.op (some 15) (.fieldAddr 2 (.t 2)) 0
  (.op (some 16) (.load none (.t 15)) 0
  (.op (some 17) (.move (.t 1)) 0
  (.op (some 18) (.idxAddr 3 (.t 16) (.t 17)) 0
  (.op (some 19) (.fieldAddr 0 (.t 18)) 0
  (.op (some 20) (.load none (.t 19)) 0
  .nil))))))
  (.op (some 21) (.pick (.t 14) (.t 20) (.c (.bool false))) 0
  (.op (some 4) (.move (.t 21)) 0
  .nil)))))))))) false)
 .ret)),
 [.tmp 4]⟩
theorem b21 : fnOf Go.Proofs.Tryd.prog (owOf []) 21 = some c21 := by kernel_rfl
def c33 : RFn := ⟨(.seq (.region (Nodes.flat none (.op (some 2) (.move (.c (.bool false))) 0
  .nil)) false)
 (.seq (.seq (.region (Nodes.flat none (.op (some 3) (.move (.c (.int .i64 1))) 0
  .nil)) false)
 (.block 0 (.loop (.seq (.seq (.region (Nodes.flat none (.op (some 4) (.move (.t 3)) 0
  (.op (some 5) (.move (.t 0)) 0
  (.op (some 6) (.len false (.t 5)) 0
  (.op (some 7) (.bin .lss (.t 4) (.t 6)) 0
  .nil))))) false)
 (.cond (.t 7)
 .skip
 (.exit 0)))
 (.seq (.block 1 (.seq (.region (Nodes.flat none (.op (some 10) (.move (.t 0)) 0
  (.op (some 11) (.move (.t 3)) 0
  (.op (some 12) (.idxAddr 1 (.t 10) (.t 11)) 3
  (.op (some 13) (.load none (.t 12)) 7
  (.op (some 14) (.move (.t 0)) 0
  (.op (some 15) (.move (.t 3)) 0
  (.op (some 16) (.bin .sub (.t 15) (.c (.int .i64 1))) 32
  (.op (some 17) (.idxAddr 1 (.t 14) (.t 16)) 112
  (.op (some 18) (.load none (.t 17)) 240
  (.op (some 19) (.bin .leq (.t 13) (.t 18)) 511
  .nil))))))))))) true)
 (.cond (.t 19)
 (.seq (.region (Nodes.flat none (.op (some 2) (.move (.c (.bool false))) 0
  .nil)) false)
 .ret)
 .skip)))
 (.region (Nodes.flat none (.op (some 8) (.move (.t 3)) 0
  (.op (some 9) (.bin .add (.t 8) (.c (.int .i64 1))) 0
  (.op (some 3) (.move (.t 9)) 0
  .nil)))) false))))))
 (.seq (.region (Nodes.flat none (.op (some 2) (.move (.c (.bool true))) 0
  .nil)) false)
 .ret))),
 [.tmp 2]⟩
theorem b33 : fnOf Go.Proofs.Tryd.prog (owOf []) 33 = some c33 := by kernel_rfl
def c34 : RFn := ⟨(.seq (.region (Nodes.flat none (.op (some 4) (.move (.c (.bool false))) 0
  .nil)) false)
 (.seq (.region (Nodes.flat none (.op (some 5) (.move (.t 0)) 0
  (.op (some 6) (.move (.t 1)) 0
  (.op (some 7) (.call 39 [(.t 5), (.t 6)]) 0
  (.op (some 8) (.bin .geq (.t 7) (.c (.int .i64 0))) 0
  (.op (some 4) (.move (.t 8)) 0
  .nil)))))) false)
 .ret)),
 [.tmp 4]⟩
theorem b34 : fnOf Go.Proofs.Tryd.prog (owOf []) 34 = some c34 := by kernel_rfl
def c35 : RFn := ⟨(.seq (.region (Nodes.flat none (.op (some 3) (.move (.c (.bool false))) 0
  .nil)) false)
 (.seq (.region (Nodes.flat none (.op (some 4) (.load (some 3) (.t 1)) 0
  (.op (some 5) (.move (.t 0)) 0
  (.op (some 6) (.call 21 [(.t 4), (.t 5)]) 0
  (.op (some 7) (.un .not (.t 6)) 0
  (.op (some 3) (.move (.t 7)) 0
  .nil)))))) false)
 .ret)),
 [.tmp 3]⟩
theorem b35 : fnOf Go.Proofs.Tryd.prog (owOf []) 35 = some c35 := by kernel_rfl
def c36 : RFn := ⟨(.seq (.region (Nodes.flat none (.op (some 4) (.move (.c (.bool false))) 0
  .nil)) false)
 (.seq (.region (Nodes.flat none (.op (some 5) (.move (.t 0)) 0
  (.op (some 6) (.move (.t 1)) 0
  (.op (some 7) (.call 40 [(.t 5), (.t 6)]) 0
  (.op (some 8) (.bin .geq (.t 7) (.c (.int .i64 0))) 0
  (.op (some 4) (.move (.t 8)) 0
  .nil)))))) false)
 .ret)),
 [.tmp 4]⟩
theorem b36 : fnOf Go.Proofs.Tryd.prog (owOf []) 36 = some c36 := by kernel_rfl
def c38 : RFn := ⟨(.seq (.region (Nodes.flat none (.op (some 3) (.box (.t 0)) 0
  (.op (some 4) (.box (.t 1)) 0
  (.op (some 5) (.box (.t 2)) 0
  (.op (some 6) (.move (.c (.bool false))) 0
  .nil))))) false)
 (.seq (.seq (.region (Nodes.flat none (.op (some 7) (.load (some 11) (.t 5)) 0
  (.op (some 8) (.call 41 [(.t 7)]) 0
  (.op (some 9) (.un .not (.t 8)) 0
  (.op (some 10) (.move (.t 9)) 0
  (.grd 10 false
  (.op (some 11) (.load (some 11) (.t 5)) 0
  (.op (some 12) (.call 42 [(.t 11)]) 0
  (.op (some 13) (.mkfunc 43 [(.t 4)]) 0
  (.op (some 14) (.call 34 [(.t 12), (.t 13)]) 0
  .nil))))
  (.op (some 15) (.pick (.t 10) (.c (.bool true)) (.t 14)) 0
  .nil))))))) false)
 (.cond (.t 15)
 (.seq (.region (Nodes.flat none (.op (some 6) (.move (.c (.bool false))) 0
  .nil)) false)
 .ret)
 .skip))
 (.seq (.region (Nodes.flat none (.op (some 16) (.fieldAddr 1 (.t 5)) 0
  (.op (some 17) (.load none (.t 16)) 1
  (.op (some 18) (.bin .neq (.t 17) (.c (.int .i64 7))) 3
  (.op (some 19) (.move (.t 18)) 7
  (.grd 19 false
  (.op (some 20) (.fieldAddr 6 (.t 5)) 15
  (.op (some 21) (.load none (.t 20)) 31
  (.op (some 22) (.fieldAddr 0 (.t 3)) 15
  (.op (some 23) (.load none (.t 22)) 79
  (.op (some 24) (.len false (.t 23)) 207
  (.op (some 25) (.bin .lss (.t 21) (.t 24)) 511
  (.op (some 26) (.move (.t 25)) 1023
  (.grd 26 true
  (.op (some 27) (.fieldAddr 0 (.t 3)) 2047
  (.op (some 28) (.load none (.t 27)) 4095
  (.op (some 29) (.fieldAddr 6 (.t 5)) 2047
  (.op (some 30) (.load none (.t 29)) 10239
  (.op (some 31) (.idxAddr 3 (.t 28) (.t 30)) 32767
  (.op (some 32) (.fieldAddr 0 (.t 31)) 65535
  (.op (some 33) (.load none (.t 32)) 131071
  (.op (some 34) (.fieldAddr 7 (.t 5)) 2047
  (.op (some 35) (.load none (.t 34)) 264191
  (.op (some 36) (.bin .eql (.t 33) (.t 35)) 1048575
  .nil))))))))))
  (.op (some 37) (.pick (.t 26) (.t 36) (.c (.bool false))) 2097151
  .nil)))))))))
  (.op (some 38) (.pick (.t 19) (.c (.bool true)) (.t 37)) 4194303
  (.op (some 6) (.move (.t 38)) 8388607
  .nil)))))))) true)
 .ret))),
 [.tmp 6]⟩
theorem b38 : fnOf Go.Proofs.Tryd.prog (owOf []) 38 = some c38 := by kernel_rfl
def c39 : RFn := ⟨(.seq (.region (Nodes.flat none (.op (some 4) (.move (.c (.int .i64 0))) 0
  .nil)) false)
 (.seq (.seq (.region (Nodes.flat none (.op (some 6) (.move (.t 0)) 0
  (.op (some 7) (.len false (.t 6)) 0
  (.op (some 8) (.move (.c (.int .i64 0))) 0
  .nil)))) false)
 (.block 0 (.loop (.seq (.region (Nodes.flat none (.op (some 9) (.bin .lss (.t 8) (.t 7)) 0
  .nil)) false)
 (.seq (.cond (.t 9)
 .skip
 (.exit 0))
 (.seq (.block 1 (.seq (.region (Nodes.flat none (.op (some 10) (.move (.t 8)) 0
  (.op (some 5) (.move (.t 10)) 0
  .nil))) false)
 (.seq (.region (Nodes.flat none (.op (some 11) (.move (.t 1)) 0
  (.op (some 12) (.move (.t 0)) 0
  (.op (some 13) (.move (.t 5)) 0
  (.op (some 14) (.idxAddr 1 (.t 12) (.t 13)) 0
  (.op (some 15) (.load none (.t 14)) 0
  (.op (some 16) (.callv (.t 11) [(.t 15)]) 0
  .nil))))))) false)
 (.cond (.t 16)
 (.seq (.region (Nodes.flat none (.op (some 17) (.move (.t 5)) 0
  (.op (some 4) (.move (.t 17)) 0
  .nil))) false)
 .ret)
 .skip))))
 (.region (Nodes.flat none (.op (some 18) (.bin .add (.t 8) (.c (.int .i64 1))) 0
  (.op (some 8) (.move (.t 18)) 0
  .nil))) false)))))))
 (.seq (.region (Nodes.flat none (.op (some 4) (.move (.c (.int .i64 (-1)))) 0
  .nil)) false)
 .ret))),
 [.tmp 4]⟩
theorem b39 : fnOf Go.Proofs.Tryd.prog (owOf []) 39 = some c39 := by kernel_rfl
def c40 : RFn := ⟨(.seq (.region (Nodes.flat none (.op (some 4) (.move (.c (.int .i64 0))) 0
  .nil)) false)
 (.seq (.seq (.region (Nodes.flat none (.op (some 6) (.move (.t 0)) 0
  (.op (some 7) (.len false (.t 6)) 0
  (.op (some 8) (.move (.c (.int .i64 0))) 0
  .nil)))) false)
 (.block 0 (.loop (.seq (.region (Nodes.flat none (.op (some 9) (.bin .lss (.t 8) (.t 7)) 0
  .nil)) false)
 (.seq (.cond (.t 9)
 .skip
 (.exit 0))
 (.seq (.block 1 (.seq (.region (Nodes.flat none (.op (some 10) (.move (.t 8)) 0
  (.op (some 5) (.move (.t 10)) 0
  .nil))) false)
 (.seq (.region (Nodes.flat none (.op (some 11) (.move (.t 1)) 0
  (.op (some 12) (.move (.t 0)) 0
  (.op (some 13) (.move (.t 5)) 0
  (.op (some 14) (.idxAddr 11 (.t 12) (.t 13)) 0
  (.op (some 15) (.load (some 11) (.t 14)) 0
  (.op (some 16) (.callv (.t 11) [(.t 15)]) 0
  .nil))))))) false)
 (.cond (.t 16)
 (.seq (.region (Nodes.flat none (.op (some 17) (.move (.t 5)) 0
  (.op (some 4) (.move (.t 17)) 0
  .nil))) false)
 .ret)
 .skip))))
 (.region (Nodes.flat none (.op (some 18) (.bin .add (.t 8) (.c (.int .i64 1))) 0
  (.op (some 8) (.move (.t 18)) 0
  .nil))) false)))))))
 (.seq (.region (Nodes.flat none (.op (some 4) (.move (.c (.int .i64 (-1)))) 0
  .nil)) false)
 .ret))),
 [.tmp 4]⟩
theorem b40 : fnOf Go.Proofs.Tryd.prog (owOf []) 40 = some c40 := by kernel_rfl
def c43 : RFn := ⟨(.seq (.region (Nodes.flat none (.op (some 3) (.move (.c (.bool false))) 0
  .nil)) false)
 (.seq (.region (Nodes.flat none (.op (some 4) (.move (.t 0)) 0
  (.op (some 5) (.fieldAddr 1 (.t 1)) 0
  (.op (some 6) (.load none (.t 5)) 0
  (.op (some 7) (.bin .geq (.t 4) (.t 6)) 0
  (.op (some 3) (.move (.t 7)) 0
  .nil)))))) false)
 .ret)),
 [.tmp 3]⟩
theorem b43 : fnOf Go.Proofs.Tryd.prog (owOf []) 43 = some c43 := by kernel_rfl
end Go.Vm
end
section
/- Walks. -/
set_option maxRecDepth 100000
set_option linter.unusedSimpArgs false
set_option linter.unusedVariables false
namespace Go.Vm
open Go
set_option maxHeartbeats 4000000
section
variable {gl : Nat → Option PV}
theorem p_idxF (l : List Int) (F : FuncId) (caps : List PV) (q : Int → Bool) (hl : l.length ≤ 100000) (hc : caps.all pure1 = true) (h : ∀ j, j < l.length → Pure Go.Proofs.Tryd.prog gl F ([.int .i64 (l.getD j 0)] ++ caps) (.bool (q (l.getD j 0)))) : Pure Go.Proofs.Tryd.prog gl 39 [.sl (ints l), .fn F caps] (.int .i64 (fidx q l)) := by
  have h0 := h
  refine Pure.fn hmix b39 ?_
  repeat' first
    | with_reducible refine tr_seq ?_
    | ((with_reducible refine tr_region_f ?_ ?_); kernel_rfl)
    | with_reducible refine n_nil ?_
    | with_reducible refine seqQ_normal ?_
    | with_reducible refine seqQ_exit ?_
    | with_reducible refine seqQ_ret ?_
    | with_reducible refine blkQ_normal ?_
    | with_reducible refine blkQ_exit ?_
    | with_reducible refine blkQ_ret ?_
    | ((with_reducible refine blkQ_exit_ne ?_ ?_); rfl)
    | with_reducible refine tr_block ?_
    | with_reducible refine tr_skip ?_
    | with_reducible refine tr_exit ?_
    | with_reducible refine tr_ret ?_
    | ((with_reducible apply tr_cond_e); rfl)
    | with_reducible refine condT_t ?_
    | with_reducible refine condT_f ?_
    | with_reducible refine loopV_exit ?_
    | with_reducible refine loopV_ret ?_
    | ((with_reducible apply n_idx_ints); rfl; rfl; (first | omega | decide | (simp only [decide_eq_true_eq, decide_eq_false_iff_not, Bool.or_eq_false_iff, Bool.and_eq_true, Bool.not_eq_true', Bool.not_eq_false', Bool.not_true, Bool.not_false, ints_length, List.length_map] at *; omega)))
    | ((with_reducible apply n_callv_p); rfl; rfl; rfl; exact hc; exact h0 k (by first | omega | decide | (simp only [decide_eq_true_eq, decide_eq_false_iff_not, Bool.or_eq_false_iff, Bool.and_eq_true, Bool.not_eq_true', Bool.not_eq_false', Bool.not_true, Bool.not_false, ints_length, List.length_map] at *; omega)))
    | (first | ((with_reducible apply n_bin); rfl; rfl; focus ((with_reducible (first | apply b_add | apply b_sub)) <;> first | omega | decide | (simp only [decide_eq_true_eq, decide_eq_false_iff_not, Bool.or_eq_false_iff, Bool.and_eq_true, Bool.not_eq_true', Bool.not_eq_false', Bool.not_true, Bool.not_false, ints_length, List.length_map] at *; omega))) | ((with_reducible apply n_max); rfl; rfl) | ((with_reducible apply n_min); rfl; rfl))
    | (refine tr_loop_v (α := Nat) 0 (fun | k => [(8, some (.int .i64 (k : Int))), (9, none), (10, none), (5, none), (11, none), (12, none), (13, none), (14, none), (15, none), (16, none), (17, none), (4, none), (18, none)]) (fun | k => []) (fun | k => k ≤ l.length ∧ ∀ j, j < k → q (l.getD j 0) = false) (fun | k => l.length - k) (0) (ks := [8, 9, 10, 5, 11, 12, 13, 14, 15, 16, 17, 4, 18]) (fun _ => rfl) (fun _ => rfl) rfl (by omega) ?_ ⟨⟨_, rfl, rfl⟩, trivial⟩ trivial ?_; rotate_left; rintro k hx; try dsimp only at hx)
    | ((first | (refine loopV_normal (k + 1) ?_ ⟨⟨_, rfl, rfl⟩, trivial⟩ trivial ?_ ?_)); repeat (first | exact only_refl | refine only_put rfl ?_ | refine only_less rfl ?_ | refine only_ov rfl ?_))
    | ((with_reducible apply n_val); rfl; rfl)
    | (with_reducible refine condT_split (fun h => ?_) (fun h => ?_))
    | ((with_reducible apply fnQ_told_ret); rfl)
    | ((with_reducible apply fnQ_ret_soft); rfl; rfl)
  all_goals (try dsimp only at *)
  all_goals (try simp only [decide_eq_true_eq, decide_eq_false_iff_not, ints_length] at *)
  · exact congrArg _ (fidx_at 0 (by omega) (by assumption) hx.2).symm
  · omega
  · refine ⟨by omega, fun j hj => ?_⟩
    by_cases e : j = k
    · subst e; assumption
    · exact hx.2 j (by omega)
  · exact congrArg _ (fidx_no 0 fun j hj => hx.2 j (by omega)).symm
  · exact ⟨by omega, fun j hj => absurd hj (by omega)⟩
theorem p_ctnF (l : List Int) (F : FuncId) (caps : List PV) (q : Int → Bool) (hl : l.length ≤ 100000) (hc : caps.all pure1 = true) (h : ∀ j, j < l.length → Pure Go.Proofs.Tryd.prog gl F ([.int .i64 (l.getD j 0)] ++ caps) (.bool (q (l.getD j 0)))) : Pure Go.Proofs.Tryd.prog gl 34 [.sl (ints l), .fn F caps] (.bool (l.any q)) := by
  have h1 := p_idxF l F caps q hl hc h
  refine Pure.fn hmix b34 ?_
  repeat' first
    | with_reducible refine tr_seq ?_
    | ((with_reducible refine tr_region_f ?_ ?_); kernel_rfl)
    | with_reducible refine n_nil ?_
    | with_reducible refine seqQ_normal ?_
    | with_reducible refine seqQ_ret ?_
    | with_reducible refine blkQ_ret ?_
    | with_reducible refine tr_ret ?_
    | (refine n_call (f := 39) rfl (softs_fn1 rfl hc) h1 ?_)
    | ((with_reducible apply n_val); rfl; rfl)
    | ((with_reducible apply fnQ_told_ret); rfl)
    | ((with_reducible apply fnQ_ret_soft); rfl; rfl)
  exact congrArg PV.bool (fidx_in q l)
theorem p_idxG (l : List In) (F : FuncId) (caps : List PV) (q : In → Bool) (hl : l.length ≤ 100000) (hc : caps.all pure1 = true) (h : ∀ j, j < l.length → Pure Go.Proofs.Tryd.prog gl F ([pI (l.getD j i0)] ++ caps) (.bool (q (l.getD j i0)))) : Pure Go.Proofs.Tryd.prog gl 40 [.sl (l.map pI), .fn F caps] (.int .i64 (fidx q l)) := by
  have h0 := h
  refine Pure.fn hmix b40 ?_
  repeat' first
    | with_reducible refine tr_seq ?_
    | ((with_reducible refine tr_region_f ?_ ?_); kernel_rfl)
    | with_reducible refine n_nil ?_
    | with_reducible refine seqQ_normal ?_
    | with_reducible refine seqQ_exit ?_
    | with_reducible refine seqQ_ret ?_
    | with_reducible refine blkQ_normal ?_
    | with_reducible refine blkQ_exit ?_
    | with_reducible refine blkQ_ret ?_
    | ((with_reducible refine blkQ_exit_ne ?_ ?_); rfl)
    | with_reducible refine tr_block ?_
    | with_reducible refine tr_skip ?_
    | with_reducible refine tr_exit ?_
    | with_reducible refine tr_ret ?_
    | ((with_reducible apply tr_cond_e); rfl)
    | with_reducible refine condT_t ?_
    | with_reducible refine condT_f ?_
    | with_reducible refine loopV_exit ?_
    | with_reducible refine loopV_ret ?_
    | ((with_reducible apply n_idx_vals i0); rfl; rfl; exact (fun _ => rfl); (first | omega | decide | (simp only [decide_eq_true_eq, decide_eq_false_iff_not, Bool.or_eq_false_iff, Bool.and_eq_true, Bool.not_eq_true', Bool.not_eq_false', Bool.not_true, Bool.not_false, ints_length, List.length_map] at *; omega)))
    | ((with_reducible apply n_callv_p); rfl; rfl; rfl; exact hc; exact h0 k (by first | omega | decide | (simp only [decide_eq_true_eq, decide_eq_false_iff_not, Bool.or_eq_false_iff, Bool.and_eq_true, Bool.not_eq_true', Bool.not_eq_false', Bool.not_true, Bool.not_false, ints_length, List.length_map] at *; omega)))
    | (first | ((with_reducible apply n_bin); rfl; rfl; focus ((with_reducible (first | apply b_add | apply b_sub)) <;> first | omega | decide | (simp only [decide_eq_true_eq, decide_eq_false_iff_not, Bool.or_eq_false_iff, Bool.and_eq_true, Bool.not_eq_true', Bool.not_eq_false', Bool.not_true, Bool.not_false, ints_length, List.length_map] at *; omega))) | ((with_reducible apply n_max); rfl; rfl) | ((with_reducible apply n_min); rfl; rfl))
    | (refine tr_loop_v (α := Nat) 0 (fun | k => [(8, some (.int .i64 (k : Int))), (9, none), (10, none), (5, none), (11, none), (12, none), (13, none), (14, none), (15, none), (16, none), (17, none), (4, none), (18, none)]) (fun | k => []) (fun | k => k ≤ l.length ∧ ∀ j, j < k → q (l.getD j i0) = false) (fun | k => l.length - k) (0) (ks := [8, 9, 10, 5, 11, 12, 13, 14, 15, 16, 17, 4, 18]) (fun _ => rfl) (fun _ => rfl) rfl (by omega) ?_ ⟨⟨_, rfl, rfl⟩, trivial⟩ trivial ?_; rotate_left; rintro k hx; try dsimp only at hx)
    | ((first | (refine loopV_normal (k + 1) ?_ ⟨⟨_, rfl, rfl⟩, trivial⟩ trivial ?_ ?_)); repeat (first | exact only_refl | refine only_put rfl ?_ | refine only_less rfl ?_ | refine only_ov rfl ?_))
    | ((with_reducible apply n_val); rfl; rfl)
    | (with_reducible refine condT_split (fun h => ?_) (fun h => ?_))
    | ((with_reducible apply fnQ_told_ret); rfl)
    | ((with_reducible apply fnQ_ret_soft); rfl; rfl)
  all_goals (try dsimp only at *)
  all_goals (try simp only [decide_eq_true_eq, decide_eq_false_iff_not, List.length_map] at *)
  · exact congrArg _ (fidx_at i0 (by omega) (by assumption) hx.2).symm
  · omega
  · refine ⟨by omega, fun j hj => ?_⟩
    by_cases e : j = k
    · subst e; assumption
    · exact hx.2 j (by omega)
  · exact congrArg _ (fidx_no i0 fun j hj => hx.2 j (by omega)).symm
  · exact ⟨by omega, fun j hj => absurd hj (by omega)⟩
theorem p_ctnG (l : List In) (F : FuncId) (caps : List PV) (q : In → Bool) (hl : l.length ≤ 100000) (hc : caps.all pure1 = true) (h : ∀ j, j < l.length → Pure Go.Proofs.Tryd.prog gl F ([pI (l.getD j i0)] ++ caps) (.bool (q (l.getD j i0)))) : Pure Go.Proofs.Tryd.prog gl 36 [.sl (l.map pI), .fn F caps] (.bool (l.any q)) := by
  have h1 := p_idxG l F caps q hl hc h
  refine Pure.fn hmix b36 ?_
  repeat' first
    | with_reducible refine tr_seq ?_
    | ((with_reducible refine tr_region_f ?_ ?_); kernel_rfl)
    | with_reducible refine n_nil ?_
    | with_reducible refine seqQ_normal ?_
    | with_reducible refine seqQ_ret ?_
    | with_reducible refine blkQ_ret ?_
    | with_reducible refine tr_ret ?_
    | (refine n_call (f := 40) rfl (softs_fn1 rfl hc) h1 ?_)
    | ((with_reducible apply n_val); rfl; rfl)
    | ((with_reducible apply fnQ_told_ret); rfl)
    | ((with_reducible apply fnQ_ret_soft); rfl; rfl)
  exact congrArg PV.bool (fidx_in q l)
theorem p_live (f : Fn) (b : Int) : Pure Go.Proofs.Tryd.prog gl 21 [pF f, .int .i64 b] (.bool (liveF f b)) := by
  refine Pure.fn hmix b21 ?_
  repeat' first
    | with_reducible refine tr_seq ?_
    | ((with_reducible refine tr_region_f ?_ ?_); kernel_rfl)
    | with_reducible refine n_nil ?_
    | exact ⟨rfl, rfl⟩
    | with_reducible refine seqQ_normal ?_
    | with_reducible refine seqQ_ret ?_
    | with_reducible refine blkQ_ret ?_
    | with_reducible refine tr_ret ?_
    | ((with_reducible apply n_and); rfl; rfl; intro h)
    | ((with_reducible apply n_or); rfl; rfl; intro h)
    | ((with_reducible apply n_idx_vals B0); rfl; rfl; exact (fun _ => rfl); (first | omega | decide | (simp only [decide_eq_true_eq, decide_eq_false_iff_not, Bool.or_eq_false_iff, Bool.and_eq_true, Bool.not_eq_true', Bool.not_eq_false', Bool.not_true, Bool.not_false, ints_length, List.length_map] at *; omega)))
    | ((with_reducible apply n_val); rfl; rfl)
    | ((with_reducible apply n_new); rfl; (first | (simp only [hn0, hn1, hn2, hn3, hn4, hn5, List.length_cons, List.length_nil, Nat.reduceAdd, Nat.zero_add]; done) | (simp only [hn0, hn1, hn2, hn3, hn4, hn5, List.length_cons, List.length_nil, Nat.reduceAdd, Nat.zero_add]; rfl) | rfl); rfl)
    | ((with_reducible apply fnQ_told_ret); rfl)
    | ((with_reducible apply fnQ_ret_soft); rfl; rfl)
  simp only [liveF, List.length_map]
theorem p_rises (l : List Int) (hl : l.length ≤ 100000) : Pure Go.Proofs.Tryd.prog gl 33 [.sl (ints l)] (.bool (risesL l)) := by
  refine Pure.fn hmix b33 ?_
  repeat' first
    | with_reducible refine tr_seq ?_
    | ((with_reducible refine tr_region_f ?_ ?_); kernel_rfl)
    | ((with_reducible refine tr_region_t ?_ ?_ ?_); kernel_rfl; kernel_rfl)
    | with_reducible refine n_nil ?_
    | with_reducible refine seqQ_normal ?_
    | with_reducible refine seqQ_exit ?_
    | with_reducible refine seqQ_ret ?_
    | with_reducible refine blkQ_normal ?_
    | with_reducible refine blkQ_exit ?_
    | with_reducible refine blkQ_ret ?_
    | ((with_reducible refine blkQ_exit_ne ?_ ?_); rfl)
    | with_reducible refine tr_block ?_
    | with_reducible refine tr_skip ?_
    | with_reducible refine tr_exit ?_
    | with_reducible refine tr_ret ?_
    | ((with_reducible apply tr_cond_e); rfl)
    | with_reducible refine condT_t ?_
    | with_reducible refine condT_f ?_
    | with_reducible refine loopV_exit ?_
    | with_reducible refine loopV_ret ?_
    | ((with_reducible apply n_idx_ints); rfl; rfl; (first | omega | decide | (simp only [decide_eq_true_eq, decide_eq_false_iff_not, Bool.or_eq_false_iff, Bool.and_eq_true, Bool.not_eq_true', Bool.not_eq_false', Bool.not_true, Bool.not_false, ints_length, List.length_map] at *; omega)))
    | (first | ((with_reducible apply n_bin); rfl; rfl; focus ((with_reducible (first | apply b_add | apply b_sub)) <;> first | omega | decide | (simp only [decide_eq_true_eq, decide_eq_false_iff_not, Bool.or_eq_false_iff, Bool.and_eq_true, Bool.not_eq_true', Bool.not_eq_false', Bool.not_true, Bool.not_false, ints_length, List.length_map] at *; omega))) | ((with_reducible apply n_max); rfl; rfl) | ((with_reducible apply n_min); rfl; rfl))
    | (refine tr_loop_v (α := Nat) 0 (fun | k => [(3, some (.int .i64 (k : Int))), (4, none), (5, none), (6, none), (7, none), (10, none), (11, none), (12, none), (13, none), (14, none), (15, none), (16, none), (17, none), (18, none), (19, none), (2, none), (8, none), (9, none)]) (fun | k => []) (fun | k => 1 ≤ k ∧ k ≤ max l.length 1 ∧ ∀ j, 1 ≤ j → j < k → l.getD (j - 1) 0 < l.getD j 0) (fun | k => l.length - k) (1) (ks := [3, 4, 5, 6, 7, 10, 11, 12, 13, 14, 15, 16, 17, 18, 19, 2, 8, 9]) (fun _ => rfl) (fun _ => rfl) rfl (by omega) ?_ ⟨⟨_, rfl, rfl⟩, trivial⟩ trivial ?_; rotate_left; rintro k hx; try dsimp only at hx)
    | ((first | (refine loopV_normal (k + 1) ?_ ⟨⟨_, rfl, rfl⟩, trivial⟩ trivial ?_ ?_)); repeat (first | exact only_refl | refine only_put rfl ?_ | refine only_less rfl ?_ | refine only_ov rfl ?_))
    | ((with_reducible apply n_val); rfl; rfl)
    | (with_reducible refine condT_split (fun h => ?_) (fun h => ?_))
    | ((with_reducible apply fnQ_told_ret); rfl)
    | ((with_reducible apply fnQ_ret_soft); rfl; rfl)
  all_goals (try dsimp only at *)
  all_goals (try simp only [decide_eq_true_eq, decide_eq_false_iff_not, ints_length] at *)
  · have e : ((k : Int) - 1).toNat = k - 1 := by omega
    rw [e] at h
    exact congrArg PV.bool (rises_f hx.1 (by omega) (by simp only [Int.toNat_natCast] at h; omega)).symm
  · omega
  · refine ⟨by omega, by omega, fun j h1 h2 => ?_⟩
    by_cases e : j = k
    · subst e
      have e : ((j : Int) - 1).toNat = j - 1 := by omega
      rw [e] at h
      simp only [Int.toNat_natCast] at h
      omega
    · exact hx.2.2 j h1 (by omega)
  · exact congrArg PV.bool (rises_t fun j h1 h2 => hx.2.2 j h1 (by omega)).symm
  · exact ⟨by omega, by omega, fun j h1 h2 => by omega⟩
theorem p_block1 (f : Fn) (b : Int) : Pure Go.Proofs.Tryd.prog gl 35 ([.int .i64 b] ++ [.fptr [.int .i64 f.ar, .int .i64 f.vs, .sl (f.bs.map pB)]]) (.bool (!liveF f b)) := by
  refine Pure.fn hmix b35 ?_
  repeat' first
    | with_reducible refine tr_seq ?_
    | ((with_reducible refine tr_region_f ?_ ?_); kernel_rfl)
    | with_reducible refine n_nil ?_
    | with_reducible refine seqQ_normal ?_
    | with_reducible refine seqQ_ret ?_
    | with_reducible refine blkQ_ret ?_
    | with_reducible refine tr_ret ?_
    | ((with_reducible apply n_val); rfl; rfl)
    | ((with_reducible apply n_call (f := 21)); rfl; rfl; exact p_live f b)
    | ((with_reducible apply fnQ_told_ret); rfl)
    | ((with_reducible apply fnQ_ret_soft); rfl; rfl)
  rfl
theorem p_instrOK1 (f : Fn) (v : Int) : Pure Go.Proofs.Tryd.prog gl 43 ([.int .i64 v] ++ [.fptr [.int .i64 f.ar, .int .i64 f.vs, .sl (f.bs.map pB)]]) (.bool (decide (v ≥ f.vs))) := by
  refine Pure.fn hmix b43 ?_
  repeat' first
    | with_reducible refine tr_seq ?_
    | ((with_reducible refine tr_region_f ?_ ?_); kernel_rfl)
    | with_reducible refine n_nil ?_
    | with_reducible refine seqQ_normal ?_
    | with_reducible refine seqQ_ret ?_
    | with_reducible refine blkQ_ret ?_
    | with_reducible refine tr_ret ?_
    | ((with_reducible apply n_val); rfl; rfl)
    | ((with_reducible apply fnQ_told_ret); rfl)
    | ((with_reducible apply fnQ_ret_soft); rfl; rfl)
  rfl
end
theorem vars_len5 (i : In) : (varsI i).length ≤ 100000 := by
  rw [varsI]
  have h1 := cp_len (srt ((if defI i = -1 then usesI i else usesI i ++ [defI i]).length - 1) (if defI i = -1 then usesI i else usesI i ++ [defI i]))
  rw [srt_length] at h1
  have h2 : (if defI i = -1 then usesI i else usesI i ++ [defI i]).length ≤ (usesI i).length + 1 := by split <;> simp
  have := usesI_len i
  omega
theorem form_call {i : In} (h : form i = true) : i.kind = 7 → 0 ≤ i.f := by
  intro hk
  have := ((form_iff i).1 h).2.1.2.2.2.1
  rw [none5_iff] at this
  omega
theorem p_instrOK (p : List Fn) (f : Fn) (i : In) : Pure Go.Proofs.Tryd.prog glD 38 [pP p, pF f, pI i] (.bool (okI p f i)) := by
  have hC := p_ctnF (gl := glD) (varsI i) 43 [.fptr [.int .i64 f.ar, .int .i64 f.vs, .sl (f.bs.map pB)]] (fun v => decide (v ≥ f.vs)) (vars_len5 i) rfl (fun j _ => p_instrOK1 f _)
  have hF := form_call (i := i)
  refine Pure.fn hmix b38 ?_
  repeat' first
    | with_reducible refine tr_seq ?_
    | ((with_reducible refine tr_region_f ?_ ?_); kernel_rfl)
    | ((with_reducible refine tr_region_t ?_ ?_ ?_); kernel_rfl; kernel_rfl)
    | with_reducible refine n_nil ?_
    | exact ⟨rfl, rfl⟩
    | with_reducible refine seqQ_normal ?_
    | with_reducible refine seqQ_ret ?_
    | with_reducible refine blkQ_ret ?_
    | with_reducible refine tr_skip ?_
    | with_reducible refine tr_ret ?_
    | ((with_reducible apply tr_cond_e); rfl)
    | with_reducible refine condT_t ?_
    | with_reducible refine condT_f ?_
    | ((with_reducible apply n_and); rfl; rfl; intro h)
    | ((with_reducible apply n_or); rfl; rfl; intro h)
    | ((with_reducible apply n_idx_vals F0); rfl; rfl; exact (fun _ => rfl); exact (by rename_i q1 q2; simp only [bne_eq_false_iff_eq, decide_eq_true_eq, Bool.or_eq_false_iff, Bool.not_eq_false', List.length_map] at h q1 q2; exact ⟨hF q1.1 q2, h⟩))
    | ((with_reducible apply n_val); rfl; rfl)
    | ((with_reducible apply n_new); rfl; (first | (simp only [hn0, hn1, hn2, hn3, hn4, hn5, List.length_cons, List.length_nil, Nat.reduceAdd, Nat.zero_add]; done) | (simp only [hn0, hn1, hn2, hn3, hn4, hn5, List.length_cons, List.length_nil, Nat.reduceAdd, Nat.zero_add]; rfl) | rfl); rfl)
    | ((with_reducible apply n_call (f := 41)); rfl; rfl; exact p_Form i)
    | ((with_reducible apply n_call (f := 42)); rfl; rfl; exact p_Vars i)
    | ((with_reducible apply n_callb ); rfl; rfl; exact hC; rfl)
    | (with_reducible refine condT_split (fun h => ?_) (fun h => ?_))
    | ((with_reducible apply fnQ_told_ret); rfl)
    | ((with_reducible apply fnQ_ret_soft); rfl; rfl)
  · refine congrArg PV.bool ?_
    unfold okI
    cases hf : form i
    · rfl
    · rw [hf] at h
      simp only [Bool.not_true, Bool.false_or] at h
      rw [h]; rfl
  · refine congrArg PV.bool ?_
    simp only [Bool.or_eq_false_iff, Bool.not_eq_false'] at h
    unfold okI
    rw [h.1, h.2, List.length_map]
    simp
end Go.Vm
end
