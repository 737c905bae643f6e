/- Laid. -/
import Derived.Test.YtlcbceneacnaiaaGreatDoorVmThree
import Derived.KernelRfl
import Derived.Test.YtlcbceneacnaiaaGreatDoorProg
import Derived.Test.YtlcbceneacnaiaaGreatDoorXenvB
section
/- Code. -/
set_option maxRecDepth 100000
set_option linter.unusedSimpArgs false
set_option linter.unusedVariables false
namespace Go.Vm
open Go
def c34 : RFn := ⟨(.seq (.region (Nodes.flat none (.op (some 2) (.box (.t 0)) 0
  (.op (some 3) (.box (.t 1)) 0
  (.op (some 4) (.alloc (.agg [(.bool false), (.lit [])])) 0
  .nil)))) false)
 (.seq (.seq (.region (Nodes.flat none (.op (some 7) (.fieldAddr 0 (.t 2)) 0
  (.op (some 8) (.load none (.t 7)) 0
  (.op (some 9) (.un .not (.t 8)) 0
  .nil)))) false)
 (.cond (.t 9)
 (.seq (.region (Nodes.flat none (.op (some 10) (.load (some 2) (.t 3)) 0
  (.op (some 11) (.call 69 [(.t 10)]) 0
  (.op none (.store 2 (.t 4) (.t 11)) 0
  .nil)))) false)
 .ret)
 .skip))
 (.seq (.seq (.region (Nodes.flat none (.op (some 12) (.fieldAddr 0 (.t 3)) 0
  (.op (some 13) (.load none (.t 12)) 0
  (.op (some 14) (.un .not (.t 13)) 0
  .nil)))) false)
 (.cond (.t 14)
 (.seq (.region (Nodes.flat none (.op (some 15) (.load (some 2) (.t 2)) 0
  (.op (some 16) (.call 69 [(.t 15)]) 0
  (.op none (.store 2 (.t 4) (.t 16)) 0
  .nil)))) false)
 .ret)
 .skip))
 (.seq (.region (Nodes.flat none (.op (some 17) (.build [(.bool false), (.lit [])] [(0, 1, (.c (.bool true)))]) 0
  (.op (some 5) (.alloc (.agg [(.bool false), (.lit [])])) 0
  (.op none (.store 2 (.t 5) (.t 17)) 0
  .nil)))) false)
 (.seq (.seq (.region (Nodes.flat none (.op (some 6) (.move (.c (.int .i64 0))) 0
  .nil)) false)
 (.block 0 (.loop (.seq (.seq (.region (Nodes.flat none (.op (some 18) (.move (.t 6)) 0
  (.op (some 19) (.fieldAddr 1 (.t 2)) 0
  (.op (some 20) (.load none (.t 19)) 0
  (.op (some 21) (.len false (.t 20)) 0
  (.op (some 22) (.fieldAddr 1 (.t 3)) 0
  (.op (some 23) (.load none (.t 22)) 0
  (.op (some 24) (.len false (.t 23)) 0
  (.op (some 25) (.mm true (.t 21) [(.t 24)]) 0
  (.op (some 26) (.bin .lss (.t 18) (.t 25)) 0
  .nil)))))))))) false)
 (.cond (.t 26)
 .skip
 (.exit 0)))
 (.seq (.block 1 (.region (Nodes.flat none (.op (some 29) (.fieldAddr 1 (.t 5)) 0
  (.op (some 30) (.load none (.t 29)) 1
  (.op (some 31) (.load (some 2) (.t 2)) 0
  (.op (some 32) (.move (.t 6)) 0
  (.op (some 33) (.call 71 [(.t 31), (.t 32)]) 12
  (.op (some 34) (.load (some 2) (.t 3)) 0
  (.op (some 35) (.move (.t 6)) 0
  (.op (some 36) (.call 71 [(.t 34), (.t 35)]) 124
  (.op (some 37) (.call 70 [(.t 33), (.t 36)]) 252
  (.op (some 38) (.bslice false 2 1 (.agg [(.int .i64 0), (.int .i64 0)]) [(0, (.t 37))]) 508
  (.op (some 39) (.append 2 (.agg [(.int .i64 0), (.int .i64 0)]) (.t 30) (.t 38)) 1023
  (.op (some 40) (.fieldAddr 1 (.t 5)) 2047
  (.op none (.store 1 (.t 40) (.t 39)) 4095
  .nil)))))))))))))) true))
 (.region (Nodes.flat none (.op (some 27) (.move (.t 6)) 0
  (.op (some 28) (.bin .add (.t 27) (.c (.int .i64 1))) 0
  (.op (some 6) (.move (.t 28)) 0
  .nil)))) false))))))
 (.seq (.region (Nodes.flat none (.op (some 41) (.load (some 2) (.t 5)) 0
  (.op none (.store 2 (.t 4) (.t 41)) 0
  .nil))) false)
 .ret)))))),
 [.cell (some 2) 4]⟩
theorem b34 : fnOf Go.Proofs.Tryz.prog (owOf [(9, 9)]) 34 = some c34 := by kernel_rfl
def c35 : RFn := ⟨(.seq (.region (Nodes.flat none (.op (some 3) (.box (.t 0)) 0
  (.op (some 5) (.box (.t 2)) 0
  (.op (some 6) (.alloc (.agg [(.bool false), (.lit [])])) 0
  .nil)))) false)
 (.seq (.region (Nodes.flat none (.op (some 8) (.load (some 2) (.t 3)) 0
  (.op (some 9) (.call 69 [(.t 8)]) 0
  (.op (some 7) (.alloc (.agg [(.bool false), (.lit [])])) 0
  (.op none (.store 2 (.t 7) (.t 9)) 0
  .nil))))) false)
 (.seq (.seq (.region (Nodes.flat none (.op (some 10) (.move (.t 1)) 0
  (.op (some 11) (.bin .geq (.t 10) (.c (.int .i64 0))) 0
  (.op (some 12) (.move (.t 11)) 0
  (.grd 12 true
  (.op (some 13) (.move (.t 1)) 0
  (.op (some 14) (.fieldAddr 1 (.t 7)) 0
  (.op (some 15) (.load none (.t 14)) 0
  (.op (some 16) (.len false (.t 15)) 0
  (.op (some 17) (.bin .lss (.t 13) (.t 16)) 0
  .nil)))))
  (.op (some 18) (.pick (.t 12) (.t 17) (.c (.bool false))) 0
  .nil)))))) false)
 (.cond (.t 18)
 (.region (Nodes.flat none (.op (some 19) (.fieldAddr 1 (.t 7)) 0
  (.op (some 20) (.load none (.t 19)) 1
  (.op (some 21) (.move (.t 1)) 0
  (.op (some 22) (.load (some 2) (.t 5)) 0
  (.op (some 23) (.call 72 [(.t 22)]) 8
  (.op (some 24) (.idxAddr 2 (.t 20) (.t 21)) 31
  (.op none (.store 2 (.t 24) (.t 23)) 63
  .nil)))))))) true)
 .skip))
 (.seq (.region (Nodes.flat none (.op (some 25) (.load (some 2) (.t 7)) 0
  (.op none (.store 2 (.t 6) (.t 25)) 0
  .nil))) false)
 .ret)))),
 [.cell (some 2) 6]⟩
theorem b35 : fnOf Go.Proofs.Tryz.prog (owOf []) 35 = some c35 := by kernel_rfl
def c69 : RFn := ⟨(.seq (.region (Nodes.flat none (.op (some 1) (.box (.t 0)) 0
  (.op (some 2) (.alloc (.agg [(.bool false), (.lit [])])) 0
  .nil))) false)
 (.seq (.seq (.region (Nodes.flat none (.op (some 5) (.fieldAddr 0 (.t 1)) 0
  (.op (some 6) (.load none (.t 5)) 0
  (.op (some 7) (.un .not (.t 6)) 0
  .nil)))) false)
 (.cond (.t 7)
 (.seq (.region (Nodes.flat none (.op (some 8) (.build [(.bool false), (.lit [])] []) 0
  (.op none (.store 2 (.t 2) (.t 8)) 0
  .nil))) false)
 .ret)
 .skip))
 (.seq (.region (Nodes.flat none (.op (some 9) (.build [(.bool false), (.lit [])] [(0, 1, (.c (.bool true)))]) 0
  (.op (some 3) (.alloc (.agg [(.bool false), (.lit [])])) 0
  (.op none (.store 2 (.t 3) (.t 9)) 0
  .nil)))) false)
 (.seq (.seq (.region (Nodes.flat none (.op (some 4) (.move (.c (.int .i64 0))) 0
  .nil)) false)
 (.block 0 (.loop (.seq (.seq (.region (Nodes.flat none (.op (some 10) (.move (.t 4)) 0
  (.op (some 11) (.fieldAddr 1 (.t 1)) 0
  (.op (some 12) (.load none (.t 11)) 0
  (.op (some 13) (.len false (.t 12)) 0
  (.op (some 14) (.bin .lss (.t 10) (.t 13)) 0
  .nil)))))) false)
 (.cond (.t 14)
 .skip
 (.exit 0)))
 (.seq (.block 1 (.region (Nodes.flat none (.op (some 17) (.fieldAddr 1 (.t 3)) 0
  (.op (some 18) (.load none (.t 17)) 1
  (.op (some 19) (.load (some 2) (.t 1)) 0
  (.op (some 20) (.move (.t 4)) 0
  (.op (some 21) (.call 71 [(.t 19), (.t 20)]) 12
  (.op (some 22) (.bslice false 2 1 (.agg [(.int .i64 0), (.int .i64 0)]) [(0, (.t 21))]) 28
  (.op (some 23) (.append 2 (.agg [(.int .i64 0), (.int .i64 0)]) (.t 18) (.t 22)) 63
  (.op (some 24) (.fieldAddr 1 (.t 3)) 127
  (.op none (.store 1 (.t 24) (.t 23)) 255
  .nil)))))))))) true))
 (.region (Nodes.flat none (.op (some 15) (.move (.t 4)) 0
  (.op (some 16) (.bin .add (.t 15) (.c (.int .i64 1))) 0
  (.op (some 4) (.move (.t 16)) 0
  .nil)))) false))))))
 (.seq (.region (Nodes.flat none (.op (some 25) (.load (some 2) (.t 3)) 0
  (.op none (.store 2 (.t 2) (.t 25)) 0
  .nil))) false)
 .ret))))),
 [.cell (some 2) 2]⟩
theorem b69 : fnOf Go.Proofs.Tryz.prog (owOf [(7, 5)]) 69 = some c69 := by kernel_rfl
def c71 : RFn := ⟨(.seq (.region (Nodes.flat none (.op (some 2) (.box (.t 0)) 0
  (.op (some 4) (.alloc (.agg [(.int .i64 0), (.int .i64 0)])) 0
  .nil))) false)
 (.seq (.seq (.region (Nodes.flat none (.op (some 5) (.fieldAddr 0 (.t 2)) 0
  (.op (some 6) (.load none (.t 5)) 0
  (.op (some 7) (.un .not (.t 6)) 0
  (.op (some 8) (.move (.t 7)) 0
  (.grd 8 false
  (.op (some 9) (.move (.t 1)) 0
  (.op (some 10) (.bin .lss (.t 9) (.c (.int .i64 0))) 0
  .nil))
  (.op (some 11) (.pick (.t 8) (.c (.bool true)) (.t 10)) 0
  (.op (some 12) (.move (.t 11)) 0
  (.grd 12 false
  (.op (some 13) (.move (.t 1)) 0
  (.op (some 14) (.fieldAddr 1 (.t 2)) 0
  (.op (some 15) (.load none (.t 14)) 0
  (.op (some 16) (.len false (.t 15)) 0
  (.op (some 17) (.bin .geq (.t 13) (.t 16)) 0
  .nil)))))
  (.op (some 18) (.pick (.t 12) (.c (.bool true)) (.t 17)) 0
  .nil)))))))))) false)
 (.cond (.t 18)
 (.seq (.region (Nodes.flat none (.op (some 19) (.build [(.int .i64 0), (.int .i64 0)] []) 0
  (.op none (.store 2 (.t 4) (.t 19)) 0
  .nil))) false)
 .ret)
 .skip))
 (.seq (.region (Nodes.flat none (.op (some 20) (.fieldAddr 1 (.t 2)) 0
  (.op (some 21) (.load none (.t 20)) 0
  (.op (some 22) (.move (.t 1)) 0
  (.op (some 23) (.idxAddr 2 (.t 21) (.t 22)) 0
  (.op (some 24) (.load (some 2) (.t 23)) 0
  (.op (some 25) (.call 72 [(.t 24)]) 0
  (.op none (.store 2 (.t 4) (.t 25)) 0
  .nil)))))))) false)
 .ret))),
 [.cell (some 2) 4]⟩
theorem b71 : fnOf Go.Proofs.Tryz.prog (owOf []) 71 = some c71 := by kernel_rfl
def c72 : RFn := ⟨(.seq (.region (Nodes.flat none (.op (some 1) (.box (.t 0)) 0
  (.op (some 2) (.alloc (.agg [(.int .i64 0), (.int .i64 0)])) 0
  .nil))) false)
 (.seq (.region (Nodes.flat none (.op (some 3) (.load (some 2) (.t 1)) 0
  (.op (some 4) (.build [(.int .i64 0), (.int .i64 0)] []) 0
  (.op (some 5) (.call 70 [(.t 3), (.t 4)]) 0
  (.op none (.store 2 (.t 2) (.t 5)) 0
  .nil))))) false)
 .ret)),
 [.cell (some 2) 2]⟩
theorem b72 : fnOf Go.Proofs.Tryz.prog (owOf []) 72 = some c72 := by kernel_rfl
end Go.Vm
end
section
/- Walks. -/
set_option maxRecDepth 100000
set_option linter.unusedSimpArgs false
set_option linter.unusedVariables false
namespace Go.Vm
open Go
section
variable {gl : Nat → Option PV}
set_option maxHeartbeats 4000000
theorem p_ref4_val (k c : Int) : Pure Go.Proofs.Tryz.prog gl 72 [.agg [.int .i64 k, .int .i64 c]] (pv (toV k c)) := by
  have hj : Pure Go.Proofs.Tryz.prog gl 70 [.agg [.int .i64 k, .int .i64 c], .agg [.int .i64 0, .int .i64 0]] (pv (toV k c)) := by
    have := p_rflat_Join (gl := gl) k c 0 0
    rwa [toV_zero, V3.join_bot] at this
  refine Pure.fn hmix b72 ?_
  repeat' first
    | with_reducible refine tr_seq ?_
    | ((with_reducible refine tr_region_f ?_ ?_); kernel_rfl)
    | with_reducible refine n_nil ?_
    | with_reducible refine seqQ_normal ?_
    | with_reducible refine seqQ_ret ?_
    | with_reducible refine blkQ_ret ?_
    | with_reducible refine tr_ret ?_
    | ((with_reducible apply n_call (f := 70)); rfl; rfl; exact hj)
    | ((with_reducible apply n_val); rfl; rfl)
    | ((with_reducible apply n_new); rfl; (first | (simp only [hn0, hn1, hn2, hn3, hn4, hn5, List.length_cons, List.length_nil, Nat.reduceAdd, Nat.zero_add]; done) | (simp only [hn0, hn1, hn2, hn3, hn4, hn5, List.length_cons, List.length_nil, Nat.reduceAdd, Nat.zero_add]; rfl) | rfl); rfl)
    | ((with_reducible apply n_store); rfl; rfl; rfl; rfl; rfl)
    | ((with_reducible apply fnQ_told_ret); rfl)
    | ((with_reducible apply fnQ_ret_soft); rfl; rfl)
  rfl
theorem p_ref4_get (on : Bool) (l : List (Int × Int)) (i : Int) : Pure Go.Proofs.Tryz.prog gl 71 [eIn pq on l, .int .i64 i] (pv (eGet .bot (eAbs fq on l) i)) := by
  rw [eAbs_get (g := fq) (a := (0, 0)) toV_zero]
  refine Pure.fn hmix b71 ?_
  repeat' first
    | with_reducible refine tr_seq ?_
    | ((with_reducible refine tr_region_f ?_ ?_); kernel_rfl)
    | with_reducible refine n_nil ?_
    | exact ⟨rfl, rfl⟩
    | with_reducible refine seqQ_normal ?_
    | with_reducible refine seqQ_ret ?_
    | with_reducible refine blkQ_ret ?_
    | with_reducible refine tr_skip ?_
    | with_reducible refine tr_ret ?_
    | ((with_reducible apply tr_cond_e); rfl)
    | with_reducible refine condT_t ?_
    | with_reducible refine condT_f ?_
    | ((with_reducible apply n_and); rfl; rfl; intro h)
    | ((with_reducible apply n_or); rfl; rfl; intro h)
    | (first | ((with_reducible apply n_bin); rfl; rfl; focus ((with_reducible (first | apply b_add | apply b_sub)) <;> first | omega | (simp only [decide_eq_true_eq, decide_eq_false_iff_not, Bool.or_eq_false_iff, Bool.not_eq_true', Bool.not_eq_false', Bool.not_true, Bool.not_false, ints_length, List.length_map, tab_length] at *; omega))) | ((with_reducible apply n_max); rfl; rfl) | ((with_reducible apply n_min); rfl; rfl))
    | ((with_reducible apply n_idx_vals ((0, 0) : Int × Int)); rfl; rfl; exact (fun _ => rfl); (first | omega | (simp only [decide_eq_true_eq, decide_eq_false_iff_not, Bool.or_eq_false_iff, Bool.not_eq_true', Bool.not_eq_false', Bool.not_true, Bool.not_false, ints_length, List.length_map, tab_length] at *; omega)))
    | ((with_reducible apply n_val); rfl; rfl)
    | ((with_reducible apply n_new); rfl; (first | (simp only [hn0, hn1, hn2, hn3, hn4, hn5, List.length_cons, List.length_nil, Nat.reduceAdd, Nat.zero_add]; done) | (simp only [hn0, hn1, hn2, hn3, hn4, hn5, List.length_cons, List.length_nil, Nat.reduceAdd, Nat.zero_add]; rfl) | rfl); rfl)
    | ((with_reducible apply n_store); rfl; rfl; rfl; rfl; rfl)
    | ((with_reducible apply n_call (f := 72)); rfl; rfl; exact p_ref4_val ..)
    | (with_reducible refine condT_split (fun h => ?_) (fun h => ?_))
    | ((with_reducible apply fnQ_told_ret); rfl)
    | ((with_reducible apply fnQ_ret_soft); rfl; rfl)
  all_goals (simp only [Bool.or_eq_true, Bool.not_eq_true', decide_eq_true_eq, Bool.or_eq_false_iff, Bool.not_eq_false', decide_eq_false_iff_not, List.length_map] at *)
  · rw [if_neg (by rintro ⟨h1, h2, h3⟩; rcases h with (h | h) | h; (simp [h] at h1); omega; omega)]; rfl
  · rw [if_pos (by refine ⟨h.1.1, ?_, ?_⟩ <;> omega)]
    all_goals rfl
theorem f_ref4_own (l : List (Int × Int)) (hb : l.length ≤ 1000) : Fresh Go.Proofs.Tryz.prog gl 69 [eIn pq true l] (.agg [.bool true, .ref 3 l.length 0 l.length]) (Hp.ofL [none, none, none, some ⟨l.length, 2, (l.map fq).map pv⟩]) := by
  have hR : (l.map fq).length = l.length := by simp
  have hg : ∀ k : Nat, k < l.length → pv (eGet .bot (eAbs fq true l) (k : Int)) = pv ((l.map fq).getD k .bot) := fun k hk => by rw [eGet_on]
  refine Fresh.fnL hmix b69 ?_
  repeat' first
    | with_reducible refine tr_seq ?_
    | ((with_reducible refine tr_region_f ?_ ?_); kernel_rfl)
    | ((with_reducible refine tr_region_t ?_ ?_ ?_); kernel_rfl; kernel_rfl)
    | with_reducible refine n_nil ?_
    | with_reducible refine seqQ_normal ?_
    | with_reducible refine seqQ_exit ?_
    | with_reducible refine seqQ_ret ?_
    | with_reducible refine blkQ_normal ?_
    | with_reducible refine blkQ_exit ?_
    | with_reducible refine blkQ_ret ?_
    | ((with_reducible refine blkQ_exit_ne ?_ ?_); rfl)
    | with_reducible refine tr_block ?_
    | with_reducible refine tr_skip ?_
    | with_reducible refine tr_exit ?_
    | with_reducible refine tr_ret ?_
    | ((with_reducible apply tr_cond_e); rfl)
    | with_reducible refine condT_t ?_
    | with_reducible refine condT_f ?_
    | ((with_reducible refine condT_T ?_ ?_); decide +kernel)
    | ((with_reducible refine condT_F ?_ ?_); decide +kernel)
    | ((with_reducible apply n_andF); rfl; rfl; decide +kernel)
    | ((with_reducible apply n_orT); rfl; rfl; decide +kernel)
    | with_reducible refine loopV_exit ?_
    | with_reducible refine loopV_ret ?_
    | with_reducible refine unrQ_normal ?_
    | with_reducible refine unrQ_exit ?_
    | with_reducible refine unrQ_ret ?_
    | (first | ((with_reducible apply n_bin); rfl; rfl; focus ((with_reducible (first | apply b_add | apply b_sub)) <;> first | omega | (simp only [decide_eq_true_eq, decide_eq_false_iff_not, Bool.or_eq_false_iff, Bool.not_eq_true', Bool.not_eq_false', Bool.not_true, Bool.not_false, ints_length, List.length_map, tab_length] at *; omega))) | ((with_reducible apply n_max); rfl; rfl) | ((with_reducible apply n_min); rfl; rfl))
    | ((with_reducible apply n_append_vals (f := pv) ((l.map fq).getD k .bot)); rfl; rfl; rfl; exact hg _ (by first | omega | (simp only [decide_eq_true_eq, decide_eq_false_iff_not, Bool.or_eq_false_iff, Bool.not_eq_true', Bool.not_eq_false', Bool.not_true, Bool.not_false, ints_length, List.length_map, tab_length] at *; omega)); rfl; exact (by rw [List.length_take, hR]; omega); (first | omega | (simp only [decide_eq_true_eq, decide_eq_false_iff_not, Bool.or_eq_false_iff, Bool.not_eq_true', Bool.not_eq_false', Bool.not_true, Bool.not_false, ints_length, List.length_map, tab_length] at *; omega)))
    | (refine tr_virt_blk 2 1 2 3 rfl (by omega) rfl rfl ?_; refine tr_loop_v (α := Nat) 4 (fun | k => [(4, some (.int .i64 (k : Int))), (10, none), (11, none), (12, none), (13, none), (14, none), (17, none), (18, none), (19, none), (20, none), (21, none), (22, none), (23, none), (24, none), (15, none), (16, none)]) (fun | k => [some ⟨0, 2, [eIn pq true l]⟩, some ⟨0, 2, [.agg [.bool false, .lit []]]⟩, some ⟨0, 2, [.agg [.bool true, .ref 3 k 0 k]]⟩, some ⟨k, 2, ((l.map fq).take k).map pv⟩]) (fun | k => k ≤ l.length) (fun | k => l.length - k) (0) (ks := [4, 10, 11, 12, 13, 14, 17, 18, 19, 20, 21, 22, 23, 24, 15, 16]) (fun _ => rfl) (fun _ => rfl) rfl (by omega) ?_ ⟨⟨_, rfl, rfl⟩, trivial⟩ ⟨⟨_, rfl, rfl, rfl, (by first | exact fzP_vals (fun _ => rfl) (take_snoc1 (by first | omega | (simp only [decide_eq_true_eq, decide_eq_false_iff_not, Bool.or_eq_false_iff, Bool.not_eq_true', Bool.not_eq_false', Bool.not_true, Bool.not_false, ints_length, List.length_map, tab_length] at *; omega)) V3.bot) |  rfl | exact fzP_pure (ints_pure _) | exact fzP_pure (u64s_pure _) | exact fzP_pure (by assumption) | exact fzP_pure (by first | (simp [pureE, pure1, ints]; done) | (simp_all [pe_int, pe_bool, pe_str, pe_sl, pe_agg, p1_int, p1_bool, p1_str, p1_sl]; done)))⟩, ⟨_, rfl, rfl, rfl, (by first | exact fzP_vals (fun _ => rfl) (take_snoc1 (by first | omega | (simp only [decide_eq_true_eq, decide_eq_false_iff_not, Bool.or_eq_false_iff, Bool.not_eq_true', Bool.not_eq_false', Bool.not_true, Bool.not_false, ints_length, List.length_map, tab_length] at *; omega)) V3.bot) |  rfl | exact fzP_pure (ints_pure _) | exact fzP_pure (u64s_pure _) | exact fzP_pure (by assumption) | exact fzP_pure (by first | (simp [pureE, pure1, ints]; done) | (simp_all [pe_int, pe_bool, pe_str, pe_sl, pe_agg, p1_int, p1_bool, p1_str, p1_sl]; done)))⟩, ⟨_, rfl, rfl, rfl, (by first | exact fzP_vals (fun _ => rfl) (take_snoc1 (by first | omega | (simp only [decide_eq_true_eq, decide_eq_false_iff_not, Bool.or_eq_false_iff, Bool.not_eq_true', Bool.not_eq_false', Bool.not_true, Bool.not_false, ints_length, List.length_map, tab_length] at *; omega)) V3.bot) |  rfl | exact fzP_pure (ints_pure _) | exact fzP_pure (u64s_pure _) | exact fzP_pure (by assumption) | exact fzP_pure (by first | (simp [pureE, pure1, ints]; done) | (simp_all [pe_int, pe_bool, pe_str, pe_sl, pe_agg, p1_int, p1_bool, p1_str, p1_sl]; done)))⟩, ⟨_, rfl, rfl, rfl, (by first | exact fzP_vals (fun _ => rfl) (take_snoc1 (by first | omega | (simp only [decide_eq_true_eq, decide_eq_false_iff_not, Bool.or_eq_false_iff, Bool.not_eq_true', Bool.not_eq_false', Bool.not_true, Bool.not_false, ints_length, List.length_map, tab_length] at *; omega)) V3.bot) |  rfl | exact fzP_pure (ints_pure _) | exact fzP_pure (u64s_pure _) | exact fzP_pure (by assumption) | exact fzP_pure (by first | (simp [pureE, pure1, ints]; done) | (simp_all [pe_int, pe_bool, pe_str, pe_sl, pe_agg, p1_int, p1_bool, p1_str, p1_sl]; done)))⟩, trivial⟩ ?_; rotate_left; rintro k hx; try dsimp only at hx)
    | ((first | (refine loopV_normal (k + 1) ?_ ⟨⟨_, rfl, rfl⟩, trivial⟩ ⟨⟨_, rfl, rfl, rfl, (by first | exact fzP_vals (fun _ => rfl) (take_snoc1 (by first | omega | (simp only [decide_eq_true_eq, decide_eq_false_iff_not, Bool.or_eq_false_iff, Bool.not_eq_true', Bool.not_eq_false', Bool.not_true, Bool.not_false, ints_length, List.length_map, tab_length] at *; omega)) V3.bot) |  rfl | exact fzP_pure (ints_pure _) | exact fzP_pure (u64s_pure _) | exact fzP_pure (by assumption) | exact fzP_pure (by first | (simp [pureE, pure1, ints]; done) | (simp_all [pe_int, pe_bool, pe_str, pe_sl, pe_agg, p1_int, p1_bool, p1_str, p1_sl]; done)))⟩, ⟨_, rfl, rfl, rfl, (by first | exact fzP_vals (fun _ => rfl) (take_snoc1 (by first | omega | (simp only [decide_eq_true_eq, decide_eq_false_iff_not, Bool.or_eq_false_iff, Bool.not_eq_true', Bool.not_eq_false', Bool.not_true, Bool.not_false, ints_length, List.length_map, tab_length] at *; omega)) V3.bot) |  rfl | exact fzP_pure (ints_pure _) | exact fzP_pure (u64s_pure _) | exact fzP_pure (by assumption) | exact fzP_pure (by first | (simp [pureE, pure1, ints]; done) | (simp_all [pe_int, pe_bool, pe_str, pe_sl, pe_agg, p1_int, p1_bool, p1_str, p1_sl]; done)))⟩, ⟨_, rfl, rfl, rfl, (by first | exact fzP_vals (fun _ => rfl) (take_snoc1 (by first | omega | (simp only [decide_eq_true_eq, decide_eq_false_iff_not, Bool.or_eq_false_iff, Bool.not_eq_true', Bool.not_eq_false', Bool.not_true, Bool.not_false, ints_length, List.length_map, tab_length] at *; omega)) V3.bot) |  rfl | exact fzP_pure (ints_pure _) | exact fzP_pure (u64s_pure _) | exact fzP_pure (by assumption) | exact fzP_pure (by first | (simp [pureE, pure1, ints]; done) | (simp_all [pe_int, pe_bool, pe_str, pe_sl, pe_agg, p1_int, p1_bool, p1_str, p1_sl]; done)))⟩, ⟨_, rfl, rfl, rfl, (by first | exact fzP_vals (fun _ => rfl) (take_snoc1 (by first | omega | (simp only [decide_eq_true_eq, decide_eq_false_iff_not, Bool.or_eq_false_iff, Bool.not_eq_true', Bool.not_eq_false', Bool.not_true, Bool.not_false, ints_length, List.length_map, tab_length] at *; omega)) V3.bot) |  rfl | exact fzP_pure (ints_pure _) | exact fzP_pure (u64s_pure _) | exact fzP_pure (by assumption) | exact fzP_pure (by first | (simp [pureE, pure1, ints]; done) | (simp_all [pe_int, pe_bool, pe_str, pe_sl, pe_agg, p1_int, p1_bool, p1_str, p1_sl]; done)))⟩, trivial⟩ ?_ ?_)); repeat (first | exact only_refl | refine only_put rfl ?_ | refine only_less rfl ?_ | refine only_ov rfl ?_))
    | ((with_reducible apply n_val); rfl; rfl)
    | ((with_reducible apply n_new); rfl; (first | (simp only [hn0, hn1, hn2, hn3, hn4, hn5, List.length_cons, List.length_nil, Nat.reduceAdd, Nat.zero_add]; done) | (simp only [hn0, hn1, hn2, hn3, hn4, hn5, List.length_cons, List.length_nil, Nat.reduceAdd, Nat.zero_add]; rfl) | rfl); rfl)
    | ((with_reducible apply n_store); rfl; rfl; rfl; rfl; rfl)
    | ((with_reducible apply n_append); rfl; rfl; rfl; rfl; rfl; rfl; (first | decide | (simp only [List.length_append, List.length_cons, List.length_nil, List.length_set, List.length_replicate, ints_length] at *; omega)); rfl)
    | ((with_reducible apply n_append_lit); rfl; rfl; rfl; rfl; rfl; (first | decide | (simp only [List.length_append, List.length_cons, List.length_nil, List.length_set, List.length_replicate, ints_length] at *; omega)); (first | (simp only [hn0, hn1, hn2, hn3, hn4, hn5, List.length_cons, List.length_nil, Nat.reduceAdd, Nat.zero_add]; done) | (simp only [hn0, hn1, hn2, hn3, hn4, hn5, List.length_cons, List.length_nil, Nat.reduceAdd, Nat.zero_add]; rfl) | rfl); rfl)
    | ((with_reducible apply n_call (f := 71)); rfl; rfl; exact p_ref4_get ..)
    | (with_reducible refine condT_split (fun h => ?_) (fun h => ?_))
    | ((with_reducible apply fnQ_told_ret); rfl)
    | ((with_reducible apply fnQ_ret_soft); rfl; rfl)
    | ((with_reducible apply fnQ_ret_row); rfl; rfl; rfl)
  all_goals (try dsimp only at *)
  all_goals (try simp only [decide_eq_true_eq, decide_eq_false_iff_not, List.length_map] at *)
  · omega
  · omega
  · rw [show k = l.length by omega]; rfl
  · rw [show k = l.length by omega]
    exact ⟨⟨_, rfl, rfl, rfl, fzP_vals (fun _ => rfl) (List.take_of_length_le (by simp))⟩, trivial⟩
  · omega
theorem p_ref4_own (on : Bool) (l : List (Int × Int)) (hb : l.length ≤ 1000) : Pure Go.Proofs.Tryz.prog gl 69 [eIn pq on l] (eOut pv (eAbs fq on l)) := by
  cases on with
  | false =>
    refine Pure.fn hmix b69 ?_
    repeat' first
      | with_reducible refine tr_seq ?_
      | ((with_reducible refine tr_region_f ?_ ?_); kernel_rfl)
      | ((with_reducible refine tr_region_t ?_ ?_ ?_); kernel_rfl; kernel_rfl)
      | with_reducible refine n_nil ?_
      | with_reducible refine seqQ_normal ?_
      | with_reducible refine seqQ_exit ?_
      | with_reducible refine seqQ_ret ?_
      | with_reducible refine blkQ_normal ?_
      | with_reducible refine blkQ_exit ?_
      | with_reducible refine blkQ_ret ?_
      | ((with_reducible refine blkQ_exit_ne ?_ ?_); rfl)
      | with_reducible refine tr_block ?_
      | with_reducible refine tr_skip ?_
      | with_reducible refine tr_exit ?_
      | with_reducible refine tr_ret ?_
      | ((with_reducible apply tr_cond_e); rfl)
      | with_reducible refine condT_t ?_
      | with_reducible refine condT_f ?_
      | ((with_reducible refine condT_T ?_ ?_); decide +kernel)
      | ((with_reducible refine condT_F ?_ ?_); decide +kernel)
      | ((with_reducible apply n_andF); rfl; rfl; decide +kernel)
      | ((with_reducible apply n_orT); rfl; rfl; decide +kernel)
      | with_reducible refine loopV_exit ?_
      | with_reducible refine loopV_ret ?_
      | with_reducible refine unrQ_normal ?_
      | with_reducible refine unrQ_exit ?_
      | with_reducible refine unrQ_ret ?_
      | ((with_reducible apply n_val); rfl; rfl)
      | ((with_reducible apply n_new); rfl; (first | (simp only [hn0, hn1, hn2, hn3, hn4, hn5, List.length_cons, List.length_nil, Nat.reduceAdd, Nat.zero_add]; done) | (simp only [hn0, hn1, hn2, hn3, hn4, hn5, List.length_cons, List.length_nil, Nat.reduceAdd, Nat.zero_add]; rfl) | rfl); rfl)
      | ((with_reducible apply n_store); rfl; rfl; rfl; rfl; rfl)
      | ((with_reducible apply n_append); rfl; rfl; rfl; rfl; rfl; rfl; (first | decide | (simp only [List.length_append, List.length_cons, List.length_nil, List.length_set, List.length_replicate, ints_length] at *; omega)); rfl)
      | ((with_reducible apply n_append_lit); rfl; rfl; rfl; rfl; rfl; (first | decide | (simp only [List.length_append, List.length_cons, List.length_nil, List.length_set, List.length_replicate, ints_length] at *; omega)); (first | (simp only [hn0, hn1, hn2, hn3, hn4, hn5, List.length_cons, List.length_nil, Nat.reduceAdd, Nat.zero_add]; done) | (simp only [hn0, hn1, hn2, hn3, hn4, hn5, List.length_cons, List.length_nil, Nat.reduceAdd, Nat.zero_add]; rfl) | rfl); rfl)
      | (with_reducible refine condT_split (fun h => ?_) (fun h => ?_))
      | ((with_reducible apply fnQ_told_ret); rfl)
      | ((with_reducible apply fnQ_ret_soft); rfl; rfl)
      | ((with_reducible apply fnQ_ret_row); rfl; rfl; rfl)
    rfl
  | true => exact (f_ref4_own l hb).pure (soft_env (xs := l.map fq) (f := pv) rfl (fun _ => rfl) (List.length_map ..).symm)
theorem p_ref4_set (on : Bool) (l : List (Int × Int)) (i k c : Int) (hb : l.length ≤ 1000) : Pure Go.Proofs.Tryz.prog gl 35 [eIn pq on l, .int .i64 i, .agg [.int .i64 k, .int .i64 c]] (eOut pv (eSet (eAbs fq on l) i (toV k c))) := by
  cases on with
  | false =>
    refine Pure.fn hmix b35 ?_
    repeat' first
      | with_reducible refine tr_seq ?_
      | ((with_reducible refine tr_region_f ?_ ?_); kernel_rfl)
      | ((with_reducible refine tr_region_t ?_ ?_ ?_); kernel_rfl; kernel_rfl)
      | with_reducible refine n_nil ?_
      | exact ⟨rfl, rfl⟩
      | with_reducible refine seqQ_normal ?_
      | with_reducible refine seqQ_ret ?_
      | with_reducible refine blkQ_ret ?_
      | with_reducible refine tr_skip ?_
      | with_reducible refine tr_ret ?_
      | ((with_reducible apply tr_cond_e); rfl)
      | with_reducible refine condT_t ?_
      | with_reducible refine condT_f ?_
      | ((with_reducible apply n_and); rfl; rfl; intro h)
      | ((with_reducible apply n_or); rfl; rfl; intro h)
      | ((with_reducible apply n_val); rfl; rfl)
      | ((with_reducible apply n_new); rfl; (first | (simp only [hn0, hn1, hn2, hn3, hn4, hn5, List.length_cons, List.length_nil, Nat.reduceAdd, Nat.zero_add]; done) | (simp only [hn0, hn1, hn2, hn3, hn4, hn5, List.length_cons, List.length_nil, Nat.reduceAdd, Nat.zero_add]; rfl) | rfl); rfl)
      | ((with_reducible apply n_store); rfl; rfl; rfl; rfl; rfl)
      | ((with_reducible apply n_call (f := 69)); rfl; rfl; exact p_ref4_own false l hb)
      | (with_reducible refine condT_split (fun h => ?_) (fun h => ?_))
      | ((with_reducible apply fnQ_told_ret); rfl)
      | ((with_reducible apply fnQ_ret_soft); rfl; rfl)
    · exfalso
      simp only [Bool.and_eq_true, decide_eq_true_eq, List.length_nil, eAbs, eV, List.map_nil] at h
      simp at h
      omega
    · rfl
  | true =>
    refine Pure.fn hmix b35 ?_
    repeat' first
      | with_reducible refine tr_seq ?_
      | ((with_reducible refine tr_region_f ?_ ?_); kernel_rfl)
      | ((with_reducible refine tr_region_t ?_ ?_ ?_); kernel_rfl; kernel_rfl)
      | with_reducible refine n_nil ?_
      | exact ⟨rfl, rfl⟩
      | with_reducible refine seqQ_normal ?_
      | with_reducible refine seqQ_ret ?_
      | with_reducible refine blkQ_ret ?_
      | with_reducible refine tr_skip ?_
      | with_reducible refine tr_ret ?_
      | ((with_reducible apply tr_cond_e); rfl)
      | with_reducible refine condT_t ?_
      | with_reducible refine condT_f ?_
      | ((with_reducible apply n_and); rfl; rfl; intro h)
      | ((with_reducible apply n_or); rfl; rfl; intro h)
      | ((with_reducible apply n_idx_own); rfl; rfl; rfl; (simp only [Bool.and_eq_true, decide_eq_true_eq] at h; exact ⟨h.1, h.2⟩))
      | ((with_reducible apply n_store_vals (f := pv) (toV k c)); rfl; rfl; rfl; rfl; exact (fun _ => rfl); (simp only [Bool.and_eq_true, decide_eq_true_eq, List.length_map] at *; omega))
      | ((with_reducible apply fnQ_ret_env (f := pv)); rfl; rfl; exact (fun _ => rfl); exact (by simp))
      | ((with_reducible apply n_val); rfl; rfl)
      | ((with_reducible apply n_new); rfl; (first | (simp only [hn0, hn1, hn2, hn3, hn4, hn5, List.length_cons, List.length_nil, Nat.reduceAdd, Nat.zero_add]; done) | (simp only [hn0, hn1, hn2, hn3, hn4, hn5, List.length_cons, List.length_nil, Nat.reduceAdd, Nat.zero_add]; rfl) | rfl); rfl)
      | ((with_reducible apply n_store); rfl; rfl; rfl; rfl; rfl)
      | ((with_reducible apply n_freshL (f := 69)); (first | (simp only [hn0, hn1, hn2, hn3, hn4, hn5, List.length_cons, List.length_nil, Nat.reduceAdd, Nat.zero_add]; done) | (simp only [hn0, hn1, hn2, hn3, hn4, hn5, List.length_cons, List.length_nil, Nat.reduceAdd, Nat.zero_add]; rfl) | rfl); rfl; rfl; exact f_ref4_own l hb; rfl; (repeat (first | exact ShL.nil | apply ShL.none | (apply ShL.some; (first | rfl | exact shiftPs_pure (u64s_pure _) | exact shiftPs_pure (ints_pure _) | exact shiftPs_pure (vals_pure (fun _ => rfl) _))))))
      | ((with_reducible apply n_call (f := 72)); rfl; rfl; exact p_ref4_val ..)
      | (with_reducible refine condT_split (fun h => ?_) (fun h => ?_))
      | ((with_reducible apply fnQ_told_ret); rfl)
      | ((with_reducible apply fnQ_ret_soft); rfl; rfl)
    all_goals (simp only [Bool.and_eq_true, decide_eq_true_eq, Bool.and_eq_false_iff, decide_eq_false_iff_not] at h)
    · rw [eAbs_on, eSet, Option.map_some, if_pos (by omega)]
      rfl
    · have e : eSet (eAbs fq true l) i (toV k c) = some (l.map fq) := by
        rw [eAbs_on, eSet, Option.map_some]
        congr 1
        split
        · rw [List.set_eq_of_length_le (by rw [List.length_map]; omega)]
        · rfl
      rw [e]
      rfl
theorem p_rflat_JoinV (v w : V3) : Pure Go.Proofs.Tryz.prog gl 70 [pv v, pv w] (pv (v.join w)) := by
  have := p_rflat_Join (gl := gl) v.k v.c w.k w.c
  rwa [toV_kc, toV_kc] at this
theorem p_ref4_join (oa ob : Bool) (l m : List (Int × Int)) (hl : l.length ≤ 1000) (hm : m.length ≤ 1000) : Pure Go.Proofs.Tryz.prog gl 34 [eIn pq oa l, eIn pq ob m] (eOut pv (eJoin .bot V3.join (eAbs fq oa l) (eAbs fq ob m))) := by
  cases oa with
  | false =>
    refine Pure.fn hmix b34 ?_
    repeat' first
      | with_reducible refine tr_seq ?_
      | ((with_reducible refine tr_region_f ?_ ?_); kernel_rfl)
      | ((with_reducible refine tr_region_t ?_ ?_ ?_); kernel_rfl; kernel_rfl)
      | with_reducible refine n_nil ?_
      | with_reducible refine seqQ_normal ?_
      | with_reducible refine seqQ_exit ?_
      | with_reducible refine seqQ_ret ?_
      | with_reducible refine blkQ_normal ?_
      | with_reducible refine blkQ_exit ?_
      | with_reducible refine blkQ_ret ?_
      | ((with_reducible refine blkQ_exit_ne ?_ ?_); rfl)
      | with_reducible refine tr_block ?_
      | with_reducible refine tr_skip ?_
      | with_reducible refine tr_exit ?_
      | with_reducible refine tr_ret ?_
      | ((with_reducible apply tr_cond_e); rfl)
      | with_reducible refine condT_t ?_
      | with_reducible refine condT_f ?_
      | ((with_reducible refine condT_T ?_ ?_); decide +kernel)
      | ((with_reducible refine condT_F ?_ ?_); decide +kernel)
      | ((with_reducible apply n_andF); rfl; rfl; decide +kernel)
      | ((with_reducible apply n_orT); rfl; rfl; decide +kernel)
      | with_reducible refine loopV_exit ?_
      | with_reducible refine loopV_ret ?_
      | with_reducible refine unrQ_normal ?_
      | with_reducible refine unrQ_exit ?_
      | with_reducible refine unrQ_ret ?_
      | ((with_reducible apply n_val); rfl; rfl)
      | ((with_reducible apply n_new); rfl; (first | (simp only [hn0, hn1, hn2, hn3, hn4, hn5, List.length_cons, List.length_nil, Nat.reduceAdd, Nat.zero_add]; done) | (simp only [hn0, hn1, hn2, hn3, hn4, hn5, List.length_cons, List.length_nil, Nat.reduceAdd, Nat.zero_add]; rfl) | rfl); rfl)
      | ((with_reducible apply n_store); rfl; rfl; rfl; rfl; rfl)
      | ((with_reducible apply n_append); rfl; rfl; rfl; rfl; rfl; rfl; (first | decide | (simp only [List.length_append, List.length_cons, List.length_nil, List.length_set, List.length_replicate, ints_length] at *; omega)); rfl)
      | ((with_reducible apply n_append_lit); rfl; rfl; rfl; rfl; rfl; (first | decide | (simp only [List.length_append, List.length_cons, List.length_nil, List.length_set, List.length_replicate, ints_length] at *; omega)); (first | (simp only [hn0, hn1, hn2, hn3, hn4, hn5, List.length_cons, List.length_nil, Nat.reduceAdd, Nat.zero_add]; done) | (simp only [hn0, hn1, hn2, hn3, hn4, hn5, List.length_cons, List.length_nil, Nat.reduceAdd, Nat.zero_add]; rfl) | rfl); rfl)
      | ((with_reducible apply n_call (f := 69)); rfl; rfl; exact p_ref4_own ob m hm)
      | (with_reducible refine condT_split (fun h => ?_) (fun h => ?_))
      | ((with_reducible apply fnQ_told_ret); rfl)
      | ((with_reducible apply fnQ_ret_soft); rfl; rfl)
      | ((with_reducible apply fnQ_ret_row); rfl; rfl; rfl)
    cases ob <;> rfl
  | true =>
  cases ob with
  | false =>
    refine Pure.fn hmix b34 ?_
    repeat' first
      | with_reducible refine tr_seq ?_
      | ((with_reducible refine tr_region_f ?_ ?_); kernel_rfl)
      | ((with_reducible refine tr_region_t ?_ ?_ ?_); kernel_rfl; kernel_rfl)
      | with_reducible refine n_nil ?_
      | with_reducible refine seqQ_normal ?_
      | with_reducible refine seqQ_exit ?_
      | with_reducible refine seqQ_ret ?_
      | with_reducible refine blkQ_normal ?_
      | with_reducible refine blkQ_exit ?_
      | with_reducible refine blkQ_ret ?_
      | ((with_reducible refine blkQ_exit_ne ?_ ?_); rfl)
      | with_reducible refine tr_block ?_
      | with_reducible refine tr_skip ?_
      | with_reducible refine tr_exit ?_
      | with_reducible refine tr_ret ?_
      | ((with_reducible apply tr_cond_e); rfl)
      | with_reducible refine condT_t ?_
      | with_reducible refine condT_f ?_
      | ((with_reducible refine condT_T ?_ ?_); decide +kernel)
      | ((with_reducible refine condT_F ?_ ?_); decide +kernel)
      | ((with_reducible apply n_andF); rfl; rfl; decide +kernel)
      | ((with_reducible apply n_orT); rfl; rfl; decide +kernel)
      | with_reducible refine loopV_exit ?_
      | with_reducible refine loopV_ret ?_
      | with_reducible refine unrQ_normal ?_
      | with_reducible refine unrQ_exit ?_
      | with_reducible refine unrQ_ret ?_
      | ((with_reducible apply n_val); rfl; rfl)
      | ((with_reducible apply n_new); rfl; (first | (simp only [hn0, hn1, hn2, hn3, hn4, hn5, List.length_cons, List.length_nil, Nat.reduceAdd, Nat.zero_add]; done) | (simp only [hn0, hn1, hn2, hn3, hn4, hn5, List.length_cons, List.length_nil, Nat.reduceAdd, Nat.zero_add]; rfl) | rfl); rfl)
      | ((with_reducible apply n_store); rfl; rfl; rfl; rfl; rfl)
      | ((with_reducible apply n_append); rfl; rfl; rfl; rfl; rfl; rfl; (first | decide | (simp only [List.length_append, List.length_cons, List.length_nil, List.length_set, List.length_replicate, ints_length] at *; omega)); rfl)
      | ((with_reducible apply n_append_lit); rfl; rfl; rfl; rfl; rfl; (first | decide | (simp only [List.length_append, List.length_cons, List.length_nil, List.length_set, List.length_replicate, ints_length] at *; omega)); (first | (simp only [hn0, hn1, hn2, hn3, hn4, hn5, List.length_cons, List.length_nil, Nat.reduceAdd, Nat.zero_add]; done) | (simp only [hn0, hn1, hn2, hn3, hn4, hn5, List.length_cons, List.length_nil, Nat.reduceAdd, Nat.zero_add]; rfl) | rfl); rfl)
      | ((with_reducible apply n_call (f := 69)); rfl; rfl; exact p_ref4_own true l hl)
      | (with_reducible refine condT_split (fun h => ?_) (fun h => ?_))
      | ((with_reducible apply fnQ_told_ret); rfl)
      | ((with_reducible apply fnQ_ret_soft); rfl; rfl)
      | ((with_reducible apply fnQ_ret_row); rfl; rfl; rfl)
    rfl
  | true =>
    rw [eJoin_on]
    obtain ⟨N, hN⟩ : ∃ N, N = max l.length m.length := ⟨_, rfl⟩
    rw [← hN]
    obtain ⟨R, hR⟩ : ∃ R, R = tab N fun k => ((l.map fq).getD k .bot).join ((m.map fq).getD k .bot) := ⟨_, rfl⟩
    rw [← hR]
    have hRl : R.length = N := by rw [hR]; exact tab_length
    have hg : ∀ k : Nat, k < N → pv ((eGet .bot (eAbs fq true l) (k : Int)).join (eGet .bot (eAbs fq true m) (k : Int))) = pv (R.getD k .bot) := fun k hk => by
      rw [eGet_on, eGet_on, hR, tab_getD hk]
    refine Pure.fn hmix b34 ?_
    repeat' first
      | with_reducible refine tr_seq ?_
      | ((with_reducible refine tr_region_f ?_ ?_); kernel_rfl)
      | ((with_reducible refine tr_region_t ?_ ?_ ?_); kernel_rfl; kernel_rfl)
      | with_reducible refine n_nil ?_
      | with_reducible refine seqQ_normal ?_
      | with_reducible refine seqQ_exit ?_
      | with_reducible refine seqQ_ret ?_
      | with_reducible refine blkQ_normal ?_
      | with_reducible refine blkQ_exit ?_
      | with_reducible refine blkQ_ret ?_
      | ((with_reducible refine blkQ_exit_ne ?_ ?_); rfl)
      | with_reducible refine tr_block ?_
      | with_reducible refine tr_skip ?_
      | with_reducible refine tr_exit ?_
      | with_reducible refine tr_ret ?_
      | ((with_reducible apply tr_cond_e); rfl)
      | with_reducible refine condT_t ?_
      | with_reducible refine condT_f ?_
      | ((with_reducible refine condT_T ?_ ?_); decide +kernel)
      | ((with_reducible refine condT_F ?_ ?_); decide +kernel)
      | ((with_reducible apply n_andF); rfl; rfl; decide +kernel)
      | ((with_reducible apply n_orT); rfl; rfl; decide +kernel)
      | with_reducible refine loopV_exit ?_
      | with_reducible refine loopV_ret ?_
      | with_reducible refine unrQ_normal ?_
      | with_reducible refine unrQ_exit ?_
      | with_reducible refine unrQ_ret ?_
      | ((with_reducible apply n_max_to (c := (N : Int))); rfl; rfl; (rw [List.length_map, List.length_map]; omega))
      | (first | ((with_reducible apply n_bin); rfl; rfl; focus ((with_reducible (first | apply b_add | apply b_sub)) <;> first | omega | (simp only [decide_eq_true_eq, decide_eq_false_iff_not, Bool.or_eq_false_iff, Bool.not_eq_true', Bool.not_eq_false', Bool.not_true, Bool.not_false, ints_length, List.length_map, tab_length] at *; omega))) | ((with_reducible apply n_max); rfl; rfl) | ((with_reducible apply n_min); rfl; rfl))
      | ((with_reducible apply n_append_vals (f := pv) (R.getD k .bot)); rfl; rfl; rfl; exact hg _ (by first | omega | (simp only [decide_eq_true_eq, decide_eq_false_iff_not, Bool.or_eq_false_iff, Bool.not_eq_true', Bool.not_eq_false', Bool.not_true, Bool.not_false, ints_length, List.length_map, tab_length] at *; omega)); rfl; exact (by rw [List.length_take, hRl]; omega); (first | omega | (simp only [decide_eq_true_eq, decide_eq_false_iff_not, Bool.or_eq_false_iff, Bool.not_eq_true', Bool.not_eq_false', Bool.not_true, Bool.not_false, ints_length, List.length_map, tab_length] at *; omega)))
      | ((with_reducible apply fnQ_ret_env (f := pv)); rfl; rfl; exact (fun _ => rfl); exact (by rw [List.length_take, hRl]; omega))
      | (refine tr_virt_blk 3 1 2 4 rfl (by omega) rfl rfl ?_; refine tr_loop_v (α := Nat) 5 (fun | k => [(6, some (.int .i64 (k : Int))), (18, none), (19, none), (20, none), (21, none), (22, none), (23, none), (24, none), (25, none), (26, none), (29, none), (30, none), (31, none), (32, none), (33, none), (34, none), (35, none), (36, none), (37, none), (38, none), (39, none), (40, none), (27, none), (28, none)]) (fun | k => [some ⟨0, 2, [eIn pq true l]⟩, some ⟨0, 2, [eIn pq true m]⟩, some ⟨0, 2, [.agg [.bool false, .lit []]]⟩, some ⟨0, 2, [.agg [.bool true, .ref 4 k 0 k]]⟩, some ⟨k, 2, (R.take k).map pv⟩]) (fun | k => k ≤ N) (fun | k => N - k) (0) (ks := [6, 18, 19, 20, 21, 22, 23, 24, 25, 26, 29, 30, 31, 32, 33, 34, 35, 36, 37, 38, 39, 40, 27, 28]) (fun _ => rfl) (fun _ => rfl) rfl (by omega) ?_ ⟨⟨_, rfl, rfl⟩, trivial⟩ ⟨⟨_, rfl, rfl, rfl, (by first | exact fzP_vals (fun _ => rfl) (take_snoc1 (by first | omega | (simp only [decide_eq_true_eq, decide_eq_false_iff_not, Bool.or_eq_false_iff, Bool.not_eq_true', Bool.not_eq_false', Bool.not_true, Bool.not_false, ints_length, List.length_map, tab_length] at *; omega)) V3.bot) |  rfl | exact fzP_pure (ints_pure _) | exact fzP_pure (u64s_pure _) | exact fzP_pure (by assumption) | exact fzP_pure (by first | (simp [pureE, pure1, ints]; done) | (simp_all [pe_int, pe_bool, pe_str, pe_sl, pe_agg, p1_int, p1_bool, p1_str, p1_sl]; done)))⟩, ⟨_, rfl, rfl, rfl, (by first | exact fzP_vals (fun _ => rfl) (take_snoc1 (by first | omega | (simp only [decide_eq_true_eq, decide_eq_false_iff_not, Bool.or_eq_false_iff, Bool.not_eq_true', Bool.not_eq_false', Bool.not_true, Bool.not_false, ints_length, List.length_map, tab_length] at *; omega)) V3.bot) |  rfl | exact fzP_pure (ints_pure _) | exact fzP_pure (u64s_pure _) | exact fzP_pure (by assumption) | exact fzP_pure (by first | (simp [pureE, pure1, ints]; done) | (simp_all [pe_int, pe_bool, pe_str, pe_sl, pe_agg, p1_int, p1_bool, p1_str, p1_sl]; done)))⟩, ⟨_, rfl, rfl, rfl, (by first | exact fzP_vals (fun _ => rfl) (take_snoc1 (by first | omega | (simp only [decide_eq_true_eq, decide_eq_false_iff_not, Bool.or_eq_false_iff, Bool.not_eq_true', Bool.not_eq_false', Bool.not_true, Bool.not_false, ints_length, List.length_map, tab_length] at *; omega)) V3.bot) |  rfl | exact fzP_pure (ints_pure _) | exact fzP_pure (u64s_pure _) | exact fzP_pure (by assumption) | exact fzP_pure (by first | (simp [pureE, pure1, ints]; done) | (simp_all [pe_int, pe_bool, pe_str, pe_sl, pe_agg, p1_int, p1_bool, p1_str, p1_sl]; done)))⟩, ⟨_, rfl, rfl, rfl, (by first | exact fzP_vals (fun _ => rfl) (take_snoc1 (by first | omega | (simp only [decide_eq_true_eq, decide_eq_false_iff_not, Bool.or_eq_false_iff, Bool.not_eq_true', Bool.not_eq_false', Bool.not_true, Bool.not_false, ints_length, List.length_map, tab_length] at *; omega)) V3.bot) |  rfl | exact fzP_pure (ints_pure _) | exact fzP_pure (u64s_pure _) | exact fzP_pure (by assumption) | exact fzP_pure (by first | (simp [pureE, pure1, ints]; done) | (simp_all [pe_int, pe_bool, pe_str, pe_sl, pe_agg, p1_int, p1_bool, p1_str, p1_sl]; done)))⟩, ⟨_, rfl, rfl, rfl, (by first | exact fzP_vals (fun _ => rfl) (take_snoc1 (by first | omega | (simp only [decide_eq_true_eq, decide_eq_false_iff_not, Bool.or_eq_false_iff, Bool.not_eq_true', Bool.not_eq_false', Bool.not_true, Bool.not_false, ints_length, List.length_map, tab_length] at *; omega)) V3.bot) |  rfl | exact fzP_pure (ints_pure _) | exact fzP_pure (u64s_pure _) | exact fzP_pure (by assumption) | exact fzP_pure (by first | (simp [pureE, pure1, ints]; done) | (simp_all [pe_int, pe_bool, pe_str, pe_sl, pe_agg, p1_int, p1_bool, p1_str, p1_sl]; done)))⟩, trivial⟩ ?_; rotate_left; rintro k hx; try dsimp only at hx)
      | ((first | (refine loopV_normal (k + 1) ?_ ⟨⟨_, rfl, rfl⟩, trivial⟩ ⟨⟨_, rfl, rfl, rfl, (by first | exact fzP_vals (fun _ => rfl) (take_snoc1 (by first | omega | (simp only [decide_eq_true_eq, decide_eq_false_iff_not, Bool.or_eq_false_iff, Bool.not_eq_true', Bool.not_eq_false', Bool.not_true, Bool.not_false, ints_length, List.length_map, tab_length] at *; omega)) V3.bot) |  rfl | exact fzP_pure (ints_pure _) | exact fzP_pure (u64s_pure _) | exact fzP_pure (by assumption) | exact fzP_pure (by first | (simp [pureE, pure1, ints]; done) | (simp_all [pe_int, pe_bool, pe_str, pe_sl, pe_agg, p1_int, p1_bool, p1_str, p1_sl]; done)))⟩, ⟨_, rfl, rfl, rfl, (by first | exact fzP_vals (fun _ => rfl) (take_snoc1 (by first | omega | (simp only [decide_eq_true_eq, decide_eq_false_iff_not, Bool.or_eq_false_iff, Bool.not_eq_true', Bool.not_eq_false', Bool.not_true, Bool.not_false, ints_length, List.length_map, tab_length] at *; omega)) V3.bot) |  rfl | exact fzP_pure (ints_pure _) | exact fzP_pure (u64s_pure _) | exact fzP_pure (by assumption) | exact fzP_pure (by first | (simp [pureE, pure1, ints]; done) | (simp_all [pe_int, pe_bool, pe_str, pe_sl, pe_agg, p1_int, p1_bool, p1_str, p1_sl]; done)))⟩, ⟨_, rfl, rfl, rfl, (by first | exact fzP_vals (fun _ => rfl) (take_snoc1 (by first | omega | (simp only [decide_eq_true_eq, decide_eq_false_iff_not, Bool.or_eq_false_iff, Bool.not_eq_true', Bool.not_eq_false', Bool.not_true, Bool.not_false, ints_length, List.length_map, tab_length] at *; omega)) V3.bot) |  rfl | exact fzP_pure (ints_pure _) | exact fzP_pure (u64s_pure _) | exact fzP_pure (by assumption) | exact fzP_pure (by first | (simp [pureE, pure1, ints]; done) | (simp_all [pe_int, pe_bool, pe_str, pe_sl, pe_agg, p1_int, p1_bool, p1_str, p1_sl]; done)))⟩, ⟨_, rfl, rfl, rfl, (by first | exact fzP_vals (fun _ => rfl) (take_snoc1 (by first | omega | (simp only [decide_eq_true_eq, decide_eq_false_iff_not, Bool.or_eq_false_iff, Bool.not_eq_true', Bool.not_eq_false', Bool.not_true, Bool.not_false, ints_length, List.length_map, tab_length] at *; omega)) V3.bot) |  rfl | exact fzP_pure (ints_pure _) | exact fzP_pure (u64s_pure _) | exact fzP_pure (by assumption) | exact fzP_pure (by first | (simp [pureE, pure1, ints]; done) | (simp_all [pe_int, pe_bool, pe_str, pe_sl, pe_agg, p1_int, p1_bool, p1_str, p1_sl]; done)))⟩, ⟨_, rfl, rfl, rfl, (by first | exact fzP_vals (fun _ => rfl) (take_snoc1 (by first | omega | (simp only [decide_eq_true_eq, decide_eq_false_iff_not, Bool.or_eq_false_iff, Bool.not_eq_true', Bool.not_eq_false', Bool.not_true, Bool.not_false, ints_length, List.length_map, tab_length] at *; omega)) V3.bot) |  rfl | exact fzP_pure (ints_pure _) | exact fzP_pure (u64s_pure _) | exact fzP_pure (by assumption) | exact fzP_pure (by first | (simp [pureE, pure1, ints]; done) | (simp_all [pe_int, pe_bool, pe_str, pe_sl, pe_agg, p1_int, p1_bool, p1_str, p1_sl]; done)))⟩, trivial⟩ ?_ ?_)); repeat (first | exact only_refl | refine only_put rfl ?_ | refine only_less rfl ?_ | refine only_ov rfl ?_))
      | ((with_reducible apply n_val); rfl; rfl)
      | ((with_reducible apply n_new); rfl; (first | (simp only [hn0, hn1, hn2, hn3, hn4, hn5, List.length_cons, List.length_nil, Nat.reduceAdd, Nat.zero_add]; done) | (simp only [hn0, hn1, hn2, hn3, hn4, hn5, List.length_cons, List.length_nil, Nat.reduceAdd, Nat.zero_add]; rfl) | rfl); rfl)
      | ((with_reducible apply n_store); rfl; rfl; rfl; rfl; rfl)
      | ((with_reducible apply n_append); rfl; rfl; rfl; rfl; rfl; rfl; (first | decide | (simp only [List.length_append, List.length_cons, List.length_nil, List.length_set, List.length_replicate, ints_length] at *; omega)); rfl)
      | ((with_reducible apply n_append_lit); rfl; rfl; rfl; rfl; rfl; (first | decide | (simp only [List.length_append, List.length_cons, List.length_nil, List.length_set, List.length_replicate, ints_length] at *; omega)); (first | (simp only [hn0, hn1, hn2, hn3, hn4, hn5, List.length_cons, List.length_nil, Nat.reduceAdd, Nat.zero_add]; done) | (simp only [hn0, hn1, hn2, hn3, hn4, hn5, List.length_cons, List.length_nil, Nat.reduceAdd, Nat.zero_add]; rfl) | rfl); rfl)
      | ((with_reducible apply n_call (f := 71)); rfl; rfl; exact p_ref4_get ..)
      | ((with_reducible apply n_call (f := 70)); rfl; rfl; exact p_rflat_JoinV ..)
      | (with_reducible refine condT_split (fun h => ?_) (fun h => ?_))
      | ((with_reducible apply fnQ_told_ret); rfl)
      | ((with_reducible apply fnQ_ret_soft); rfl; rfl)
      | ((with_reducible apply fnQ_ret_row); rfl; rfl; rfl)
    all_goals (try dsimp only at *)
    all_goals (try simp only [decide_eq_true_eq, decide_eq_false_iff_not] at *)
    · omega
    · omega
    · rw [List.take_of_length_le (by omega)]
      rfl
    · omega
end
end Go.Vm
end
