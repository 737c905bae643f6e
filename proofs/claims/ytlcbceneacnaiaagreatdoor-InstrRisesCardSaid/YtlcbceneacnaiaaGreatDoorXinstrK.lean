/- Laid. -/
import Derived.Test.YtlcbceneacnaiaaGreatDoorVmThree
import Derived.KernelRfl
import Derived.Test.YtlcbceneacnaiaaGreatDoorProg
import Derived.Test.YtlcbceneacnaiaaGreatDoorXinstrG1
import Derived.Test.YtlcbceneacnaiaaGreatDoorLAll
section
/- Code. -/
set_option maxRecDepth 100000
set_option linter.unusedSimpArgs false
set_option linter.unusedVariables false
namespace Go.Vm
open Go
def c8 : RFn := ⟨(.seq (.region (Nodes.flat none (.op (some 2) (.box (.t 0)) 0
  (.op (some 3) (.box (.t 1)) 0
  (.op (some 4) (.alloc (.agg [(.bool false), (.lit [])])) 0
  .nil)))) false)
 (.seq (.region (Nodes.flat none (.op (some 5) (.load (some 2) (.t 2)) 0
  (.op (some 6) (.load (some 11) (.t 3)) 0
  (.op (some 7) (.call 27 [(.t 6)]) 2
  (.op (some 8) (.load (some 2) (.t 2)) 0
  (.op (some 9) (.load (some 11) (.t 3)) 0
  (.op (some 10) (.call 32 [(.t 8), (.t 9)]) 30
  (.op (some 11) (.call 31 [(.t 5), (.t 7), (.t 10)]) 63
  (.op none (.store 2 (.t 4) (.t 11)) 127
  .nil))))))))) true)
 .ret)),
 [.cell (some 2) 4]⟩
theorem b8 : fnOf Go.Proofs.Tryz.prog (owOf []) 8 = some c8 := by kernel_rfl
def c9 : RFn := ⟨(.seq (.region (Nodes.flat none (.op (some 1) (.box (.t 0)) 0
  (.op (some 2) (.alloc (.agg [(.bool false), (.lit [])])) 0
  .nil))) false)
 (.seq (.region (Nodes.flat none (.op (some 5) (.fieldAddr 0 (.t 1)) 0
  (.op (some 6) (.load none (.t 5)) 0
  (.op (some 7) (.build [(.bool false), (.lit [])] [(0, 1, (.t 6))]) 0
  (.op (some 3) (.alloc (.agg [(.bool false), (.lit [])])) 0
  (.op none (.store 2 (.t 3) (.t 7)) 0
  .nil)))))) false)
 (.seq (.seq (.region (Nodes.flat none (.op (some 4) (.move (.c (.int .i64 0))) 0
  .nil)) false)
 (.block 0 (.loop (.seq (.seq (.region (Nodes.flat none (.op (some 8) (.move (.t 4)) 0
  (.op (some 9) (.fieldAddr 1 (.t 1)) 0
  (.op (some 10) (.load none (.t 9)) 0
  (.op (some 11) (.len false (.t 10)) 0
  (.op (some 12) (.bin .lss (.t 8) (.t 11)) 0
  .nil)))))) false)
 (.cond (.t 12)
 .skip
 (.exit 0)))
 (.seq (.block 1 (.region (Nodes.flat none (.op (some 15) (.fieldAddr 1 (.t 3)) 0
  (.op (some 16) (.load none (.t 15)) 1
  (.op (some 17) (.fieldAddr 1 (.t 1)) 0
  (.op (some 18) (.load none (.t 17)) 4
  (.op (some 19) (.move (.t 4)) 0
  (.op (some 20) (.idxAddr 2 (.t 18) (.t 19)) 28
  (.op (some 21) (.fieldAddr 0 (.t 20)) 60
  (.op (some 22) (.load none (.t 21)) 124
  (.op (some 23) (.fieldAddr 1 (.t 1)) 0
  (.op (some 24) (.load none (.t 23)) 256
  (.op (some 25) (.move (.t 4)) 0
  (.op (some 26) (.idxAddr 2 (.t 24) (.t 25)) 1792
  (.op (some 27) (.fieldAddr 1 (.t 26)) 3840
  (.op (some 28) (.load none (.t 27)) 7936
  (.op (some 29) (.build [(.int .i64 0), (.int .i64 0)] [(0, 1, (.t 22)), (1, 1, (.t 28))]) 16380
  (.op (some 30) (.bslice false 2 1 (.agg [(.int .i64 0), (.int .i64 0)]) [(0, (.t 29))]) 32764
  (.op (some 31) (.append 2 (.agg [(.int .i64 0), (.int .i64 0)]) (.t 16) (.t 30)) 65535
  (.op (some 32) (.fieldAddr 1 (.t 3)) 131071
  (.op none (.store 1 (.t 32) (.t 31)) 262143
  .nil)))))))))))))))))))) true))
 (.region (Nodes.flat none (.op (some 13) (.move (.t 4)) 0
  (.op (some 14) (.bin .add (.t 13) (.c (.int .i64 1))) 0
  (.op (some 4) (.move (.t 14)) 0
  .nil)))) false))))))
 (.seq (.region (Nodes.flat none (.op (some 33) (.load (some 2) (.t 3)) 0
  (.op none (.store 2 (.t 2) (.t 33)) 0
  .nil))) false)
 .ret)))),
 [.cell (some 2) 2]⟩
theorem b9 : fnOf Go.Proofs.Tryz.prog (owOf [(5, 15)]) 9 = some c9 := by kernel_rfl
def c32 : RFn := ⟨(.seq (.region (Nodes.flat none (.op (some 2) (.box (.t 0)) 0
  (.op (some 3) (.box (.t 1)) 0
  (.op (some 4) (.alloc (.agg [(.int .i64 0), (.int .i64 0)])) 0
  .nil)))) false)
 (.seq (.region (Nodes.flat none (.op (some 7) (.load (some 2) (.t 2)) 0
  (.op (some 8) (.fieldAddr 3 (.t 3)) 0
  (.op (some 9) (.load none (.t 8)) 2
  (.op (some 10) (.call 61 [(.t 7), (.t 9)]) 7
  (.op (some 11) (.load (some 2) (.t 2)) 0
  (.op (some 12) (.fieldAddr 4 (.t 3)) 0
  (.op (some 13) (.load none (.t 12)) 32
  (.op (some 14) (.call 61 [(.t 11), (.t 13)]) 127
  (.op (some 5) (.alloc (.agg [(.int .i64 0), (.int .i64 0)])) 0
  (.op (some 6) (.alloc (.agg [(.int .i64 0), (.int .i64 0)])) 0
  (.op none (.store 2 (.t 5) (.t 10)) 1023
  (.op none (.store 2 (.t 6) (.t 14)) 2047
  .nil))))))))))))) true)
 (.seq (.seq (.region (Nodes.flat none (.op (some 15) (.fieldAddr 1 (.t 3)) 0
  (.op (some 16) (.load none (.t 15)) 0
  (.op (some 17) (.call 30 [(.t 16)]) 0
  .nil)))) false)
 (.block 0 (.seq (.region (Nodes.flat none (.op (some 19) (.bin .eql (.t 17) (.c (.str ⟨#[99, 111, 110, 115, 116]⟩))) 0
  (.op (some 18) (.move (.t 19)) 0
  .nil))) false)
 (.cond (.t 18)
 (.seq (.region (Nodes.flat none (.op (some 20) (.fieldAddr 5 (.t 3)) 0
  (.op (some 21) (.load none (.t 20)) 0
  (.op (some 22) (.call 62 [(.t 21)]) 0
  (.op none (.store 2 (.t 4) (.t 22)) 0
  .nil))))) false)
 .ret)
 (.seq (.region (Nodes.flat none (.op (some 24) (.bin .eql (.t 17) (.c (.str ⟨#[99, 111, 112, 121]⟩))) 0
  (.op (some 23) (.move (.t 24)) 0
  .nil))) false)
 (.cond (.t 23)
 (.seq (.region (Nodes.flat none (.op (some 25) (.load (some 2) (.t 5)) 0
  (.op none (.store 2 (.t 4) (.t 25)) 0
  .nil))) false)
 .ret)
 (.seq (.region (Nodes.flat none (.op (some 27) (.bin .eql (.t 17) (.c (.str ⟨#[110, 101, 103]⟩))) 0
  (.op (some 26) (.move (.t 27)) 0
  .nil))) false)
 (.cond (.t 26)
 (.seq (.region (Nodes.flat none (.op (some 28) (.load (some 2) (.t 5)) 0
  (.op (some 29) (.call 63 [(.t 28)]) 0
  (.op none (.store 2 (.t 4) (.t 29)) 0
  .nil)))) false)
 .ret)
 (.seq (.region (Nodes.flat none (.op (some 31) (.bin .eql (.t 17) (.c (.str ⟨#[97, 100, 100]⟩))) 0
  (.op (some 30) (.move (.t 31)) 0
  .nil))) false)
 (.cond (.t 30)
 (.seq (.region (Nodes.flat none (.op (some 32) (.load (some 2) (.t 5)) 0
  (.op (some 33) (.load (some 2) (.t 6)) 0
  (.op (some 34) (.call 64 [(.t 32), (.t 33)]) 0
  (.op none (.store 2 (.t 4) (.t 34)) 0
  .nil))))) false)
 .ret)
 (.seq (.region (Nodes.flat none (.op (some 36) (.bin .eql (.t 17) (.c (.str ⟨#[115, 117, 98]⟩))) 0
  (.op (some 35) (.move (.t 36)) 0
  .nil))) false)
 (.cond (.t 35)
 (.seq (.region (Nodes.flat none (.op (some 37) (.load (some 2) (.t 5)) 0
  (.op (some 38) (.load (some 2) (.t 6)) 0
  (.op (some 39) (.call 65 [(.t 37), (.t 38)]) 0
  (.op none (.store 2 (.t 4) (.t 39)) 0
  .nil))))) false)
 .ret)
 (.seq (.region (Nodes.flat none (.op (some 41) (.bin .eql (.t 17) (.c (.str ⟨#[109, 117, 108]⟩))) 0
  (.op (some 40) (.move (.t 41)) 0
  .nil))) false)
 (.cond (.t 40)
 (.seq (.region (Nodes.flat none (.op (some 42) (.load (some 2) (.t 5)) 0
  (.op (some 43) (.load (some 2) (.t 6)) 0
  (.op (some 44) (.call 66 [(.t 42), (.t 43)]) 0
  (.op none (.store 2 (.t 4) (.t 44)) 0
  .nil))))) false)
 .ret)
 .skip))))))))))))))
 (.seq (.region (Nodes.flat none (.op (some 45) (.build [(.int .i64 0), (.int .i64 0)] [(0, 1, (.c (.int .i64 2)))]) 0
  (.op none (.store 2 (.t 4) (.t 45)) 0
  .nil))) false)
 .ret)))),
 [.cell (some 2) 4]⟩
theorem b32 : fnOf Go.Proofs.Tryz.prog (owOf []) 32 = some c32 := by kernel_rfl
end Go.Vm
end
section
/- Walks. -/
set_option maxRecDepth 100000
set_option linter.unusedSimpArgs false
set_option linter.unusedVariables false
namespace Go.Vm
open Go
set_option maxHeartbeats 4000000
section
variable {gl : Nat → Option PV}
theorem p_law05_ourFlat (on : Bool) (l : List (Int × Int)) (hb : l.length ≤ 1000) : Pure Go.Proofs.Tryz.prog gl 9 [eIn pq on l] (eIn pq on l) := by
  refine Pure.fn hmix b9 ?_
  repeat' first
    | with_reducible refine tr_seq ?_
    | ((with_reducible refine tr_region_f ?_ ?_); kernel_rfl)
    | ((with_reducible refine tr_region_t ?_ ?_ ?_); kernel_rfl; kernel_rfl)
    | with_reducible refine n_nil ?_
    | with_reducible refine seqQ_normal ?_
    | with_reducible refine seqQ_exit ?_
    | with_reducible refine seqQ_ret ?_
    | with_reducible refine blkQ_normal ?_
    | with_reducible refine blkQ_exit ?_
    | with_reducible refine blkQ_ret ?_
    | ((with_reducible refine blkQ_exit_ne ?_ ?_); rfl)
    | with_reducible refine tr_block ?_
    | with_reducible refine tr_skip ?_
    | with_reducible refine tr_exit ?_
    | with_reducible refine tr_ret ?_
    | ((with_reducible apply tr_cond_e); rfl)
    | with_reducible refine condT_t ?_
    | with_reducible refine condT_f ?_
    | with_reducible refine loopV_exit ?_
    | with_reducible refine loopV_ret ?_
    | ((with_reducible apply n_idx_vals ((0, 0) : Int × Int)); rfl; rfl; exact (fun _ => rfl); (first | omega | (simp only [decide_eq_true_eq, decide_eq_false_iff_not, Bool.or_eq_false_iff, Bool.not_eq_true', Bool.not_eq_false', Bool.not_true, Bool.not_false, ints_length, List.length_map, tab_length] at *; omega)))
    | (first | ((with_reducible apply n_bin); rfl; rfl; focus ((with_reducible (first | apply b_add | apply b_sub)) <;> first | omega | (simp only [decide_eq_true_eq, decide_eq_false_iff_not, Bool.or_eq_false_iff, Bool.not_eq_true', Bool.not_eq_false', Bool.not_true, Bool.not_false, ints_length, List.length_map, tab_length] at *; omega))) | ((with_reducible apply n_max); rfl; rfl) | ((with_reducible apply n_min); rfl; rfl))
    | ((with_reducible apply n_append_vals (f := pq) (l.getD k (0, 0))); rfl; rfl; rfl; rfl; rfl; exact (by rw [List.length_take]; omega); (first | omega | (simp only [decide_eq_true_eq, decide_eq_false_iff_not, Bool.or_eq_false_iff, Bool.not_eq_true', Bool.not_eq_false', Bool.not_true, Bool.not_false, ints_length, List.length_map, tab_length] at *; omega)))
    | ((with_reducible apply fnQ_ret_env (f := pq)); rfl; rfl; exact (fun _ => rfl); exact (by rw [List.length_take]; omega))
    | (refine tr_virt_blk 2 1 2 3 rfl (by omega) rfl rfl ?_; refine tr_loop_v (α := Nat) 4 (fun | k => [(4, some (.int .i64 (k : Int))), (8, none), (9, none), (10, none), (11, none), (12, none), (15, none), (16, none), (17, none), (18, none), (19, none), (20, none), (21, none), (22, none), (23, none), (24, none), (25, none), (26, none), (27, none), (28, none), (29, none), (30, none), (31, none), (32, none), (13, none), (14, none)]) (fun | k => [some ⟨0, 2, [eIn pq on l]⟩, some ⟨0, 2, [.agg [.bool false, .lit []]]⟩, some ⟨0, 2, [.agg [.bool on, .ref 3 k 0 k]]⟩, some ⟨k, 2, (l.take k).map pq⟩]) (fun | k => k ≤ l.length) (fun | k => l.length - k) (0) (ks := [4, 8, 9, 10, 11, 12, 15, 16, 17, 18, 19, 20, 21, 22, 23, 24, 25, 26, 27, 28, 29, 30, 31, 32, 13, 14]) (fun _ => rfl) (fun _ => rfl) rfl (by omega) ?_ ⟨⟨_, rfl, rfl⟩, trivial⟩ ⟨⟨_, rfl, rfl, rfl, (by first | exact fzP_vals (fun _ => rfl) (take_snoc1 (by first | omega | (simp only [decide_eq_true_eq, decide_eq_false_iff_not, Bool.or_eq_false_iff, Bool.not_eq_true', Bool.not_eq_false', Bool.not_true, Bool.not_false, ints_length, List.length_map, tab_length] at *; omega)) ((0, 0) : Int × Int)) |  rfl | exact fzP_pure (ints_pure _) | exact fzP_pure (u64s_pure _) | exact fzP_pure (by assumption) | exact fzP_pure (by first | (simp [pureE, pure1, ints]; done) | (simp_all [pe_int, pe_bool, pe_str, pe_sl, pe_agg, p1_int, p1_bool, p1_str, p1_sl]; done)))⟩, ⟨_, rfl, rfl, rfl, (by first | exact fzP_vals (fun _ => rfl) (take_snoc1 (by first | omega | (simp only [decide_eq_true_eq, decide_eq_false_iff_not, Bool.or_eq_false_iff, Bool.not_eq_true', Bool.not_eq_false', Bool.not_true, Bool.not_false, ints_length, List.length_map, tab_length] at *; omega)) ((0, 0) : Int × Int)) |  rfl | exact fzP_pure (ints_pure _) | exact fzP_pure (u64s_pure _) | exact fzP_pure (by assumption) | exact fzP_pure (by first | (simp [pureE, pure1, ints]; done) | (simp_all [pe_int, pe_bool, pe_str, pe_sl, pe_agg, p1_int, p1_bool, p1_str, p1_sl]; done)))⟩, ⟨_, rfl, rfl, rfl, (by first | exact fzP_vals (fun _ => rfl) (take_snoc1 (by first | omega | (simp only [decide_eq_true_eq, decide_eq_false_iff_not, Bool.or_eq_false_iff, Bool.not_eq_true', Bool.not_eq_false', Bool.not_true, Bool.not_false, ints_length, List.length_map, tab_length] at *; omega)) ((0, 0) : Int × Int)) |  rfl | exact fzP_pure (ints_pure _) | exact fzP_pure (u64s_pure _) | exact fzP_pure (by assumption) | exact fzP_pure (by first | (simp [pureE, pure1, ints]; done) | (simp_all [pe_int, pe_bool, pe_str, pe_sl, pe_agg, p1_int, p1_bool, p1_str, p1_sl]; done)))⟩, ⟨_, rfl, rfl, rfl, (by first | exact fzP_vals (fun _ => rfl) (take_snoc1 (by first | omega | (simp only [decide_eq_true_eq, decide_eq_false_iff_not, Bool.or_eq_false_iff, Bool.not_eq_true', Bool.not_eq_false', Bool.not_true, Bool.not_false, ints_length, List.length_map, tab_length] at *; omega)) ((0, 0) : Int × Int)) |  rfl | exact fzP_pure (ints_pure _) | exact fzP_pure (u64s_pure _) | exact fzP_pure (by assumption) | exact fzP_pure (by first | (simp [pureE, pure1, ints]; done) | (simp_all [pe_int, pe_bool, pe_str, pe_sl, pe_agg, p1_int, p1_bool, p1_str, p1_sl]; done)))⟩, trivial⟩ ?_; rotate_left; rintro k hx; try dsimp only at hx)
    | ((first | (refine loopV_normal (k + 1) ?_ ⟨⟨_, rfl, rfl⟩, trivial⟩ ⟨⟨_, rfl, rfl, rfl, (by first | exact fzP_vals (fun _ => rfl) (take_snoc1 (by first | omega | (simp only [decide_eq_true_eq, decide_eq_false_iff_not, Bool.or_eq_false_iff, Bool.not_eq_true', Bool.not_eq_false', Bool.not_true, Bool.not_false, ints_length, List.length_map, tab_length] at *; omega)) ((0, 0) : Int × Int)) |  rfl | exact fzP_pure (ints_pure _) | exact fzP_pure (u64s_pure _) | exact fzP_pure (by assumption) | exact fzP_pure (by first | (simp [pureE, pure1, ints]; done) | (simp_all [pe_int, pe_bool, pe_str, pe_sl, pe_agg, p1_int, p1_bool, p1_str, p1_sl]; done)))⟩, ⟨_, rfl, rfl, rfl, (by first | exact fzP_vals (fun _ => rfl) (take_snoc1 (by first | omega | (simp only [decide_eq_true_eq, decide_eq_false_iff_not, Bool.or_eq_false_iff, Bool.not_eq_true', Bool.not_eq_false', Bool.not_true, Bool.not_false, ints_length, List.length_map, tab_length] at *; omega)) ((0, 0) : Int × Int)) |  rfl | exact fzP_pure (ints_pure _) | exact fzP_pure (u64s_pure _) | exact fzP_pure (by assumption) | exact fzP_pure (by first | (simp [pureE, pure1, ints]; done) | (simp_all [pe_int, pe_bool, pe_str, pe_sl, pe_agg, p1_int, p1_bool, p1_str, p1_sl]; done)))⟩, ⟨_, rfl, rfl, rfl, (by first | exact fzP_vals (fun _ => rfl) (take_snoc1 (by first | omega | (simp only [decide_eq_true_eq, decide_eq_false_iff_not, Bool.or_eq_false_iff, Bool.not_eq_true', Bool.not_eq_false', Bool.not_true, Bool.not_false, ints_length, List.length_map, tab_length] at *; omega)) ((0, 0) : Int × Int)) |  rfl | exact fzP_pure (ints_pure _) | exact fzP_pure (u64s_pure _) | exact fzP_pure (by assumption) | exact fzP_pure (by first | (simp [pureE, pure1, ints]; done) | (simp_all [pe_int, pe_bool, pe_str, pe_sl, pe_agg, p1_int, p1_bool, p1_str, p1_sl]; done)))⟩, ⟨_, rfl, rfl, rfl, (by first | exact fzP_vals (fun _ => rfl) (take_snoc1 (by first | omega | (simp only [decide_eq_true_eq, decide_eq_false_iff_not, Bool.or_eq_false_iff, Bool.not_eq_true', Bool.not_eq_false', Bool.not_true, Bool.not_false, ints_length, List.length_map, tab_length] at *; omega)) ((0, 0) : Int × Int)) |  rfl | exact fzP_pure (ints_pure _) | exact fzP_pure (u64s_pure _) | exact fzP_pure (by assumption) | exact fzP_pure (by first | (simp [pureE, pure1, ints]; done) | (simp_all [pe_int, pe_bool, pe_str, pe_sl, pe_agg, p1_int, p1_bool, p1_str, p1_sl]; done)))⟩, trivial⟩ ?_ ?_)); repeat (first | exact only_refl | refine only_put rfl ?_ | refine only_less rfl ?_ | refine only_ov rfl ?_))
    | ((with_reducible apply n_val); rfl; rfl)
    | ((with_reducible apply n_new); rfl; (first | (simp only [hn0, hn1, hn2, hn3, hn4, hn5, List.length_cons, List.length_nil, Nat.reduceAdd, Nat.zero_add]; done) | (simp only [hn0, hn1, hn2, hn3, hn4, hn5, List.length_cons, List.length_nil, Nat.reduceAdd, Nat.zero_add]; rfl) | rfl); rfl)
    | ((with_reducible apply n_store); rfl; rfl; rfl; rfl; rfl)
    | ((with_reducible apply n_append); rfl; rfl; rfl; rfl; rfl; rfl; (first | decide | (simp only [List.length_append, List.length_cons, List.length_nil, List.length_set, List.length_replicate, ints_length] at *; omega)); rfl)
    | ((with_reducible apply n_append_lit); rfl; rfl; rfl; rfl; rfl; (first | decide | (simp only [List.length_append, List.length_cons, List.length_nil, List.length_set, List.length_replicate, ints_length] at *; omega)); (first | (simp only [hn0, hn1, hn2, hn3, hn4, hn5, List.length_cons, List.length_nil, Nat.reduceAdd, Nat.zero_add]; done) | (simp only [hn0, hn1, hn2, hn3, hn4, hn5, List.length_cons, List.length_nil, Nat.reduceAdd, Nat.zero_add]; rfl) | rfl); rfl)
    | (with_reducible refine condT_split (fun h => ?_) (fun h => ?_))
    | ((with_reducible apply fnQ_told_ret); rfl)
    | ((with_reducible apply fnQ_ret_soft); rfl; rfl)
    | ((with_reducible apply fnQ_ret_row); rfl; rfl; rfl)
  all_goals (try dsimp only at *)
  all_goals (try simp only [decide_eq_true_eq, decide_eq_false_iff_not, List.length_map] at *)
  · omega
  · omega
  · rw [List.take_of_length_le (by omega)]
  · omega
theorem p_flat_NegV (v : V3) : Pure Go.Proofs.Tryz.prog gl 63 [pv v] (pv v.neg) := by
  have := p_flat_Neg (gl := gl) v.k v.c
  rwa [toV_kc] at this
theorem p_flat_AddV (v w : V3) : Pure Go.Proofs.Tryz.prog gl 64 [pv v, pv w] (pv (v.add w)) := by
  have := p_flat_Add (gl := gl) v.k v.c w.k w.c
  rwa [toV_kc, toV_kc] at this
theorem p_flat_SubV (v w : V3) : Pure Go.Proofs.Tryz.prog gl 65 [pv v, pv w] (pv (v.sub w)) := by
  have := p_flat_Sub (gl := gl) v.k v.c w.k w.c
  rwa [toV_kc, toV_kc] at this
theorem p_flat_MulV (v w : V3) : Pure Go.Proofs.Tryz.prog gl 66 [pv v, pv w] (pv (v.mul w)) := by
  have := p_flat_Mul (gl := gl) v.k v.c w.k w.c
  rwa [toV_kc, toV_kc] at this
theorem p_env_SetFlatV {p : PV} {e : Option (List V3)} (i : Int) (v : V3) (h : RepE pq fq p e) : Pure Go.Proofs.Tryz.prog gl 31 [p, .int .i64 i, pv v] (eOut pv (eSet e i v)) := by
  have := p_env_SetFlat (gl := gl) i v.k v.c h
  rwa [toV_kc] at this
end
theorem p_number {p : PV} {e : Option (List V3)} (i : In) (h : RepE pq fq p e) : Pure Go.Proofs.Tryz.prog glD 32 [p, pI i] (pv (numV e i)) := by
  have hn := p_instr_Name i.kind
  have hA := p_env_GetFlat (gl := glD) i.a h
  have hB := p_env_GetFlat (gl := glD) i.b h
  have hv : numV e i = numV e i := rfl
  conv at hv => rhs; rw [numV]
  rw [hv]
  clear hv
  obtain ⟨on, l, rfl, rfl, hl⟩ := h
  generalize eGet .bot (eAbs fq on l) i.a = va at *
  generalize eGet .bot (eAbs fq on l) i.b = vb at *
  obtain ⟨id, k, dst, ia, ib, c, f, n, x, y, z⟩ := i
  simp only at hn hA hB ⊢
  rcases kind_cases k with rfl | rfl | rfl | rfl | rfl | rfl | rfl | rfl | rfl | rfl | h
  case inr.inr.inr.inr.inr.inr.inr.inr.inr.inr =>
    rw [show nm k = bs0 by rw [nm, if_neg (by omega)]] at hn
    refine Pure.fn hmix b32 ?_
    repeat' first
      | with_reducible refine tr_seq ?_
      | ((with_reducible refine tr_region_f ?_ ?_); kernel_rfl)
      | ((with_reducible refine tr_region_t ?_ ?_ ?_); kernel_rfl; kernel_rfl)
      | with_reducible refine n_nil ?_
      | with_reducible refine seqQ_normal ?_
      | with_reducible refine seqQ_ret ?_
      | with_reducible refine blkQ_normal ?_
      | with_reducible refine blkQ_ret ?_
      | with_reducible refine tr_block ?_
      | with_reducible refine tr_skip ?_
      | with_reducible refine tr_ret ?_
      | ((with_reducible apply tr_cond_e); rfl)
      | with_reducible refine condT_t ?_
      | with_reducible refine condT_f ?_
      | ((with_reducible refine condT_T ?_ ?_); decide +kernel)
      | ((with_reducible refine condT_F ?_ ?_); decide +kernel)
      | ((with_reducible apply n_andF); rfl; rfl; decide +kernel)
      | ((with_reducible apply n_orT); rfl; rfl; decide +kernel)
      | with_reducible refine unrQ_normal ?_
      | with_reducible refine unrQ_exit ?_
      | with_reducible refine unrQ_ret ?_
      | ((with_reducible apply n_call (f := 30)); rfl; rfl; exact hn)
      | ((with_reducible apply n_call (f := 61)); rfl; rfl; (first | exact hA | exact hB))
      | ((with_reducible apply n_val); rfl; rfl)
      | ((with_reducible apply n_new); rfl; (first | (simp only [hn0, hn1, hn2, hn3, hn4, hn5, List.length_cons, List.length_nil, Nat.reduceAdd, Nat.zero_add]; done) | (simp only [hn0, hn1, hn2, hn3, hn4, hn5, List.length_cons, List.length_nil, Nat.reduceAdd, Nat.zero_add]; rfl) | rfl); rfl)
      | ((with_reducible apply n_store); rfl; rfl; rfl; rfl; rfl)
      | ((with_reducible apply n_call (f := 62)); rfl; rfl; exact p_flat_Of ..)
      | ((with_reducible apply n_call (f := 63)); rfl; rfl; exact p_flat_NegV ..)
      | ((with_reducible apply n_call (f := 64)); rfl; rfl; exact p_flat_AddV ..)
      | ((with_reducible apply n_call (f := 65)); rfl; rfl; exact p_flat_SubV ..)
      | ((with_reducible apply n_call (f := 66)); rfl; rfl; exact p_flat_MulV ..)
      | (with_reducible refine condT_split (fun h => ?_) (fun h => ?_))
      | ((with_reducible apply fnQ_told_ret); rfl)
      | ((with_reducible apply fnQ_ret_soft); rfl; rfl)
    rw [if_neg (by omega), if_neg (by omega), if_neg (by omega), if_neg (by omega), if_neg (by omega), if_neg (by omega)]
    rfl
  all_goals
    refine Pure.fn hmix b32 ?_
    repeat' first
      | with_reducible refine tr_seq ?_
      | ((with_reducible refine tr_region_f ?_ ?_); kernel_rfl)
      | ((with_reducible refine tr_region_t ?_ ?_ ?_); kernel_rfl; kernel_rfl)
      | with_reducible refine n_nil ?_
      | with_reducible refine seqQ_normal ?_
      | with_reducible refine seqQ_ret ?_
      | with_reducible refine blkQ_normal ?_
      | with_reducible refine blkQ_ret ?_
      | with_reducible refine tr_block ?_
      | with_reducible refine tr_skip ?_
      | with_reducible refine tr_ret ?_
      | ((with_reducible apply tr_cond_e); rfl)
      | with_reducible refine condT_t ?_
      | with_reducible refine condT_f ?_
      | ((with_reducible refine condT_T ?_ ?_); decide +kernel)
      | ((with_reducible refine condT_F ?_ ?_); decide +kernel)
      | ((with_reducible apply n_andF); rfl; rfl; decide +kernel)
      | ((with_reducible apply n_orT); rfl; rfl; decide +kernel)
      | with_reducible refine unrQ_normal ?_
      | with_reducible refine unrQ_exit ?_
      | with_reducible refine unrQ_ret ?_
      | ((with_reducible apply n_call (f := 30)); rfl; rfl; exact hn)
      | ((with_reducible apply n_call (f := 61)); rfl; rfl; (first | exact hA | exact hB))
      | ((with_reducible apply n_val); rfl; rfl)
      | ((with_reducible apply n_new); rfl; (first | (simp only [hn0, hn1, hn2, hn3, hn4, hn5, List.length_cons, List.length_nil, Nat.reduceAdd, Nat.zero_add]; done) | (simp only [hn0, hn1, hn2, hn3, hn4, hn5, List.length_cons, List.length_nil, Nat.reduceAdd, Nat.zero_add]; rfl) | rfl); rfl)
      | ((with_reducible apply n_store); rfl; rfl; rfl; rfl; rfl)
      | ((with_reducible apply n_call (f := 62)); rfl; rfl; exact p_flat_Of ..)
      | ((with_reducible apply n_call (f := 63)); rfl; rfl; exact p_flat_NegV ..)
      | ((with_reducible apply n_call (f := 64)); rfl; rfl; exact p_flat_AddV ..)
      | ((with_reducible apply n_call (f := 65)); rfl; rfl; exact p_flat_SubV ..)
      | ((with_reducible apply n_call (f := 66)); rfl; rfl; exact p_flat_MulV ..)
      | (with_reducible refine condT_split (fun h => ?_) (fun h => ?_))
      | ((with_reducible apply fnQ_told_ret); rfl)
      | ((with_reducible apply fnQ_ret_soft); rfl; rfl)
    rfl
theorem p_Flat {p : PV} {e : Option (List V3)} (i : In) (h : RepE pq fq p e) : Pure Go.Proofs.Tryz.prog glD 8 [p, pI i] (eOut pv (flatE e i)) := by
  have h1 := p_number i h
  have h2 := p_env_SetFlatV (gl := glD) (defI i) (numV e i) h
  rw [flatE]
  obtain ⟨on, l, rfl, rfl, hl⟩ := h
  generalize numV (eAbs fq on l) i = v at *
  generalize eSet (eAbs fq on l) (defI i) v = r at *
  refine Pure.fn hmix b8 ?_
  repeat' first
    | with_reducible refine tr_seq ?_
    | ((with_reducible refine tr_region_f ?_ ?_); kernel_rfl)
    | ((with_reducible refine tr_region_t ?_ ?_ ?_); kernel_rfl; kernel_rfl)
    | with_reducible refine n_nil ?_
    | with_reducible refine seqQ_normal ?_
    | with_reducible refine seqQ_ret ?_
    | with_reducible refine blkQ_ret ?_
    | with_reducible refine tr_ret ?_
    | ((with_reducible apply n_call (f := 32)); rfl; rfl; exact h1)
    | ((with_reducible apply n_call (f := 31)); rfl; rfl; exact h2)
    | ((with_reducible apply n_val); rfl; rfl)
    | ((with_reducible apply n_new); rfl; (first | (simp only [hn0, hn1, hn2, hn3, hn4, hn5, List.length_cons, List.length_nil, Nat.reduceAdd, Nat.zero_add]; done) | (simp only [hn0, hn1, hn2, hn3, hn4, hn5, List.length_cons, List.length_nil, Nat.reduceAdd, Nat.zero_add]; rfl) | rfl); rfl)
    | ((with_reducible apply n_store); rfl; rfl; rfl; rfl; rfl)
    | ((with_reducible apply n_call (f := 27)); rfl; rfl; exact p_Def ..)
    | ((with_reducible apply fnQ_told_ret); rfl)
    | ((with_reducible apply fnQ_ret_soft); rfl; rfl)
  rfl
end Go.Vm
end
