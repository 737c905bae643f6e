/- Laid. -/
import Derived.Test.YtlllcmahmgdppaaDoorVmThree
import Derived.KernelRfl
import Derived.Test.YtlllcmahmgdppaaDoorProg
import Derived.Test.YtlllcmahmgdppaaDoorXinstrL
import Derived.Test.YtlllcmahmgdppaaDoorLAll
section
/- Code. -/
set_option maxRecDepth 100000
set_option linter.unusedSimpArgs false
set_option linter.unusedVariables false
namespace Go.Vm
open Go
def c42 : RFn := ⟨(.seq (.region (Nodes.flat none (.op (some 1) (.box (.t 0)) 0
  (.op (some 2) (.move (.c (.lit []))) 0
  .nil))) false)
 (.seq (.region (Nodes.flat none (.op (some 5) (.load (some 11) (.t 1)) 0
  (.op (some 6) (.call 47 [(.t 5)]) 0
  (.op (some 3) (.move (.t 6)) 0
  .nil)))) false)
 (.seq (.seq (.region (Nodes.flat none (.op (some 7) (.load (some 11) (.t 1)) 0
  (.op (some 8) (.call 48 [(.t 7)]) 0
  (.op (some 4) (.move (.t 8)) 0
  .nil)))) false)
 (.seq (.region (Nodes.flat none (.op (some 9) (.move (.t 4)) 0
  (.op (some 10) (.bin .neq (.t 9) (.c (.int .i64 (-1)))) 0
  .nil))) false)
 (.cond (.t 10)
 (.region (Nodes.flat none (.op (some 11) (.move (.t 3)) 0
  (.op (some 12) (.move (.t 4)) 0
  (.op (some 13) (.bslice false 1 1 (.int .i64 0) [(0, (.t 12))]) 0
  (.op (some 14) (.append 1 (.int .i64 0) (.t 11) (.t 13)) 0
  (.op (some 3) (.move (.t 14)) 0
  .nil)))))) false)
 .skip)))
 (.seq (.region (Nodes.flat none (.op (some 15) (.move (.t 3)) 0
  (.op (some 16) (.call 49 [(.t 15)]) 0
  .nil))) false)
 (.seq (.region (Nodes.flat none (.op (some 17) (.move (.t 3)) 0
  (.op (some 18) (.call 50 [(.t 17)]) 0
  (.op (some 2) (.move (.t 18)) 0
  .nil)))) false)
 .ret))))),
 [.tmp 2]⟩
theorem b42 : fnOf Go.Proofs.Tryd.prog (owOf [(4, 2)]) 42 = some c42 := by kernel_rfl
def c50 : RFn := ⟨(.seq (.region (Nodes.flat none (.op (some 2) (.move (.c (.lit []))) 0
  .nil)) false)
 (.seq (.seq (.region (Nodes.flat none (.op (some 6) (.move (.t 0)) 0
  (.op (some 7) (.len false (.t 6)) 0
  (.op (some 8) (.bin .lss (.t 7) (.c (.int .i64 2))) 0
  .nil)))) false)
 (.cond (.t 8)
 (.seq (.region (Nodes.flat none (.op (some 9) (.move (.t 0)) 0
  (.op (some 2) (.move (.t 9)) 0
  .nil))) false)
 .ret)
 .skip))
 (.seq (.seq (.region (Nodes.flat none (.op (some 3) (.move (.c (.int .i64 1))) 0
  .nil)) false)
 (.block 0 (.loop (.seq (.seq (.region (Nodes.flat none (.op (some 10) (.move (.t 3)) 0
  (.op (some 11) (.move (.t 0)) 0
  (.op (some 12) (.len false (.t 11)) 0
  (.op (some 13) (.bin .lss (.t 10) (.t 12)) 0
  .nil))))) false)
 (.cond (.t 13)
 .skip
 (.exit 0)))
 (.seq (.block 1 (.seq (.region (Nodes.flat none (.op (some 16) (.move (.t 0)) 0
  (.op (some 17) (.move (.t 3)) 0
  (.op (some 18) (.idxAddr 1 (.t 16) (.t 17)) 3
  (.op (some 19) (.load none (.t 18)) 7
  (.op (some 20) (.move (.t 0)) 0
  (.op (some 21) (.move (.t 3)) 0
  (.op (some 22) (.bin .sub (.t 21) (.c (.int .i64 1))) 32
  (.op (some 23) (.idxAddr 1 (.t 20) (.t 22)) 112
  (.op (some 24) (.load none (.t 23)) 240
  (.op (some 25) (.bin .eql (.t 19) (.t 24)) 511
  .nil))))))))))) true)
 (.cond (.t 25)
 (.seq (.region (Nodes.flat none (.op (some 26) (.move (.t 0)) 0
  (.op (some 27) (.move (.t 3)) 0
  (.op (some 28) (.prim (.sliceSl 1 true false false) [(.t 26), (.t 27)]) 0
  (.op (some 4) (.move (.t 28)) 0
  .nil))))) false)
 (.seq (.seq (.region (Nodes.flat none (.op (some 5) (.move (.c (.int .i64 1))) 0
  .nil)) false)
 (.block 2 (.loop (.seq (.seq (.region (Nodes.flat none (.op (some 29) (.move (.t 5)) 0
  (.op (some 30) (.move (.t 4)) 0
  (.op (some 31) (.len false (.t 30)) 0
  (.op (some 32) (.bin .lss (.t 29) (.t 31)) 0
  .nil))))) false)
 (.cond (.t 32)
 .skip
 (.exit 2)))
 (.seq (.block 3 (.seq (.region (Nodes.flat none (.op (some 35) (.move (.t 4)) 0
  (.op (some 36) (.move (.t 5)) 0
  (.op (some 37) (.idxAddr 1 (.t 35) (.t 36)) 3
  (.op (some 38) (.load none (.t 37)) 7
  (.op (some 39) (.move (.t 4)) 0
  (.op (some 40) (.move (.t 5)) 0
  (.op (some 41) (.bin .sub (.t 40) (.c (.int .i64 1))) 32
  (.op (some 42) (.idxAddr 1 (.t 39) (.t 41)) 112
  (.op (some 43) (.load none (.t 42)) 240
  (.op (some 44) (.bin .neq (.t 38) (.t 43)) 511
  .nil))))))))))) true)
 (.cond (.t 44)
 (.seq (.region (Nodes.flat none (.op (some 45) (.move (.t 0)) 0
  (.op (some 46) (.move (.t 3)) 0
  (.op (some 47) (.move (.t 4)) 0
  (.op (some 48) (.move (.t 5)) 0
  (.op (some 49) (.idxAddr 1 (.t 47) (.t 48)) 0
  (.op (some 50) (.load none (.t 49)) 0
  (.op (some 51) (.idxAddr 1 (.t 45) (.t 46)) 0
  (.op none (.store 1 (.t 51) (.t 50)) 0
  .nil))))))))) false)
 (.region (Nodes.flat none (.op (some 52) (.move (.t 3)) 0
  (.op (some 53) (.bin .add (.t 52) (.c (.int .i64 1))) 0
  (.op (some 3) (.move (.t 53)) 0
  .nil)))) false))
 .skip)))
 (.region (Nodes.flat none (.op (some 33) (.move (.t 5)) 0
  (.op (some 34) (.bin .add (.t 33) (.c (.int .i64 1))) 0
  (.op (some 5) (.move (.t 34)) 0
  .nil)))) false))))))
 (.seq (.region (Nodes.flat none (.op (some 54) (.move (.t 0)) 0
  (.op (some 55) (.move (.t 3)) 0
  (.op (some 56) (.prim (.sliceSl 1 true false false) [(.t 54), (.t 55)]) 0
  (.op none (.eprim (.clear 1 (.int .i64 0)) [(.t 56)]) 0
  .nil))))) false)
 (.seq (.region (Nodes.flat none (.op (some 57) (.move (.t 0)) 0
  (.op (some 58) (.move (.t 3)) 0
  (.op (some 59) (.prim (.sliceSl 1 false true false) [(.t 57), (.t 58)]) 0
  (.op (some 2) (.move (.t 59)) 0
  .nil))))) false)
 .ret))))
 .skip)))
 (.region (Nodes.flat none (.op (some 14) (.move (.t 3)) 0
  (.op (some 15) (.bin .add (.t 14) (.c (.int .i64 1))) 0
  (.op (some 3) (.move (.t 15)) 0
  .nil)))) false))))))
 (.seq (.region (Nodes.flat none (.op (some 60) (.move (.t 0)) 0
  (.op (some 2) (.move (.t 60)) 0
  .nil))) false)
 .ret)))),
 [.tmp 2]⟩
theorem b50 : fnOf Go.Proofs.Tryd.prog (owOf []) 50 = some c50 := by kernel_rfl
end Go.Vm
end
section
/- Walks. -/
set_option maxRecDepth 100000
set_option linter.unusedSimpArgs false
set_option linter.unusedVariables false
namespace Go.Vm
open Go
set_option maxHeartbeats 4000000
section
variable {gl : Nat → Option PV}
theorem cp_end {l : List Int} (e : cp l = l) : l = cp l ++ List.replicate (l.length - (cp l).length) 0 := by rw [e]; simp
theorem h_Compact (l : List Int) (hl : l.length ≤ 1000) (g : Nat) (i0 : In) : HSpec Go.Proofs.Tryd.prog gl 50 [.ref 3 g 0 l.length] (Hp.ofL [some ⟨0, 11, [pI i0]⟩, none, none, some ⟨g, 1, l.map pint⟩]) (fun r G => r = .ref 3 g 0 (cp l).length ∧ G = Hp.ofL [some ⟨0, 11, [pI i0]⟩, none, none, some ⟨g, 1, (cp l ++ List.replicate (l.length - (cp l).length) 0).map pint⟩]) := by
  refine HSpec.fnL (Nat.le_refl _) hmix b50 ?_
  change Tr _ _ 4 _ _ _ _
  repeat' first
    | with_reducible refine tr_seq ?_
    | ((with_reducible refine tr_region_f ?_ ?_); kernel_rfl)
    | ((with_reducible refine tr_region_t ?_ ?_ ?_); kernel_rfl; kernel_rfl)
    | with_reducible refine n_nil ?_
    | with_reducible refine seqQ_normal ?_
    | with_reducible refine seqQ_exit ?_
    | with_reducible refine seqQ_ret ?_
    | with_reducible refine blkQ_normal ?_
    | with_reducible refine blkQ_exit ?_
    | with_reducible refine blkQ_ret ?_
    | ((with_reducible refine blkQ_exit_ne ?_ ?_); rfl)
    | with_reducible refine tr_block ?_
    | with_reducible refine tr_skip ?_
    | with_reducible refine tr_exit ?_
    | with_reducible refine tr_ret ?_
    | ((with_reducible apply tr_cond_e); rfl)
    | with_reducible refine condT_t ?_
    | with_reducible refine condT_f ?_
    | with_reducible refine loopV_exit ?_
    | with_reducible refine loopV_ret ?_
    | ((with_reducible apply n_idx_own); rfl; rfl; rfl; (first | omega | (have c1 := hx.len; have c2 := hx.hj; have c3 := hx.hl; have c4 := hx.hb; have c5 := hx.h0; have c6 := hx.hm; simp only [decide_eq_true_eq, decide_eq_false_iff_not] at *; omega) | (simp only [decide_eq_true_eq, decide_eq_false_iff_not, Bool.or_eq_false_iff, Bool.not_eq_true', Bool.not_eq_false', Bool.not_true, Bool.not_false, Bool.and_eq_true, ints_length, List.length_map, tab_length, List.length_set, srt_length, swp_length] at *; omega)))
    | ((with_reducible apply n_idx_ref); rfl; rfl; rfl; (first | omega | (have c1 := hx.len; have c2 := hx.hj; have c3 := hx.hl; have c4 := hx.hb; have c5 := hx.h0; have c6 := hx.hm; simp only [decide_eq_true_eq, decide_eq_false_iff_not] at *; omega) | (simp only [decide_eq_true_eq, decide_eq_false_iff_not, Bool.or_eq_false_iff, Bool.not_eq_true', Bool.not_eq_false', Bool.not_true, Bool.not_false, Bool.and_eq_true, ints_length, List.length_map, tab_length, List.length_set, srt_length, swp_length] at *; omega)))
    | ((with_reducible apply n_load_vals (f := pint) (0 : Int)); rfl; rfl; rfl; (first | omega | (have c1 := hx.len; have c2 := hx.hj; have c3 := hx.hl; have c4 := hx.hb; have c5 := hx.h0; have c6 := hx.hm; simp only [decide_eq_true_eq, decide_eq_false_iff_not] at *; omega) | (simp only [decide_eq_true_eq, decide_eq_false_iff_not, Bool.or_eq_false_iff, Bool.not_eq_true', Bool.not_eq_false', Bool.not_true, Bool.not_false, Bool.and_eq_true, ints_length, List.length_map, tab_length, List.length_set, srt_length, swp_length] at *; omega)))
    | ((with_reducible apply n_store_vals (f := pint)); rfl; rfl; rfl; rfl; exact (fun _ => rfl); (first | omega | (have c1 := hx.len; have c2 := hx.hj; have c3 := hx.hl; have c4 := hx.hb; have c5 := hx.h0; have c6 := hx.hm; simp only [decide_eq_true_eq, decide_eq_false_iff_not] at *; omega) | (simp only [decide_eq_true_eq, decide_eq_false_iff_not, Bool.or_eq_false_iff, Bool.not_eq_true', Bool.not_eq_false', Bool.not_true, Bool.not_false, Bool.and_eq_true, ints_length, List.length_map, tab_length, List.length_set, srt_length, swp_length] at *; omega)))
    | ((with_reducible apply n_slice_lo0); rfl; rfl; rfl; (first | omega | (have c1 := hx.len; have c2 := hx.hj; have c3 := hx.hl; have c4 := hx.hb; have c5 := hx.h0; have c6 := hx.hm; simp only [decide_eq_true_eq, decide_eq_false_iff_not] at *; omega) | (simp only [decide_eq_true_eq, decide_eq_false_iff_not, Bool.or_eq_false_iff, Bool.not_eq_true', Bool.not_eq_false', Bool.not_true, Bool.not_false, Bool.and_eq_true, ints_length, List.length_map, tab_length, List.length_set, srt_length, swp_length] at *; omega)))
    | ((with_reducible apply n_slice_hi); rfl; rfl; rfl; (first | omega | (have c1 := hx.len; have c2 := hx.hj; have c3 := hx.hl; have c4 := hx.hb; have c5 := hx.h0; have c6 := hx.hm; simp only [decide_eq_true_eq, decide_eq_false_iff_not] at *; omega) | (simp only [decide_eq_true_eq, decide_eq_false_iff_not, Bool.or_eq_false_iff, Bool.not_eq_true', Bool.not_eq_false', Bool.not_true, Bool.not_false, Bool.and_eq_true, ints_length, List.length_map, tab_length, List.length_set, srt_length, swp_length] at *; omega)))
    | ((with_reducible apply n_clear_vals (f := pint) (0 : Int)); rfl; rfl; rfl; rfl; (first | omega | (have c1 := hx.len; have c2 := hx.hj; have c3 := hx.hl; have c4 := hx.hb; have c5 := hx.h0; have c6 := hx.hm; simp only [decide_eq_true_eq, decide_eq_false_iff_not] at *; omega) | (simp only [decide_eq_true_eq, decide_eq_false_iff_not, Bool.or_eq_false_iff, Bool.not_eq_true', Bool.not_eq_false', Bool.not_true, Bool.not_false, Bool.and_eq_true, ints_length, List.length_map, tab_length, List.length_set, srt_length, swp_length] at *; omega)); (first | omega | (have c1 := hx.len; have c2 := hx.hj; have c3 := hx.hl; have c4 := hx.hb; have c5 := hx.h0; have c6 := hx.hm; simp only [decide_eq_true_eq, decide_eq_false_iff_not] at *; omega) | (simp only [decide_eq_true_eq, decide_eq_false_iff_not, Bool.or_eq_false_iff, Bool.not_eq_true', Bool.not_eq_false', Bool.not_true, Bool.not_false, Bool.and_eq_true, ints_length, List.length_map, tab_length, List.length_set, srt_length, swp_length] at *; omega)))
    | (first | ((with_reducible apply n_bin); rfl; rfl; focus ((with_reducible (first | apply b_add | apply b_sub)) <;> first | omega | (have c1 := hx.len; have c2 := hx.hj; have c3 := hx.hl; have c4 := hx.hb; have c5 := hx.h0; have c6 := hx.hm; simp only [decide_eq_true_eq, decide_eq_false_iff_not] at *; omega) | (simp only [decide_eq_true_eq, decide_eq_false_iff_not, Bool.or_eq_false_iff, Bool.not_eq_true', Bool.not_eq_false', Bool.not_true, Bool.not_false, Bool.and_eq_true, ints_length, List.length_map, tab_length, List.length_set, srt_length, swp_length] at *; omega))) | ((with_reducible apply n_max); rfl; rfl) | ((with_reducible apply n_min); rfl; rfl))
    | (refine tr_loop_v (α := Nat) 4 (fun | k => [(3, some (.int .i64 (k : Int))), (10, none), (11, none), (12, none), (13, none), (16, none), (17, none), (18, none), (19, none), (20, none), (21, none), (22, none), (23, none), (24, none), (25, none), (26, none), (27, none), (28, none), (4, none), (5, none), (29, none), (30, none), (31, none), (32, none), (35, none), (36, none), (37, none), (38, none), (39, none), (40, none), (41, none), (42, none), (43, none), (44, none), (45, none), (46, none), (47, none), (48, none), (49, none), (50, none), (51, none), (52, none), (53, none), (33, none), (34, none), (54, none), (55, none), (56, none), (57, none), (58, none), (59, none), (2, none), (14, none), (15, none)]) (fun | k => [some ⟨0, 11, [pI i0]⟩, none, none, some ⟨g, 1, l.map pint⟩]) (fun | k => 1 ≤ k ∧ k ≤ l.length ∧ cp (l.take k) = l.take k) (fun | k => l.length - k) (1) (ks := [3, 10, 11, 12, 13, 16, 17, 18, 19, 20, 21, 22, 23, 24, 25, 26, 27, 28, 4, 5, 29, 30, 31, 32, 35, 36, 37, 38, 39, 40, 41, 42, 43, 44, 45, 46, 47, 48, 49, 50, 51, 52, 53, 33, 34, 54, 55, 56, 57, 58, 59, 2, 14, 15]) (fun _ => rfl) (fun _ => rfl) rfl (by omega) ?_ ⟨⟨_, rfl, rfl⟩, trivial⟩ ⟨⟨_, rfl, rfl, rfl, (by first | exact fzP_vals (fun _ => rfl) rfl |  rfl | exact fzP_pure (ints_pure _) | exact fzP_pure (u64s_pure _) | exact fzP_pure (by assumption) | exact fzP_pure (by first | (simp [pureE, pure1, ints]; done) | (simp_all [pe_int, pe_bool, pe_str, pe_sl, pe_agg, p1_int, p1_bool, p1_str, p1_sl]; done)))⟩, ⟨_, rfl, rfl, rfl, (by first | exact fzP_vals (fun _ => rfl) rfl |  rfl | exact fzP_pure (ints_pure _) | exact fzP_pure (u64s_pure _) | exact fzP_pure (by assumption) | exact fzP_pure (by first | (simp [pureE, pure1, ints]; done) | (simp_all [pe_int, pe_bool, pe_str, pe_sl, pe_agg, p1_int, p1_bool, p1_str, p1_sl]; done)))⟩, trivial⟩ ?_; rotate_left; rintro k hx; try dsimp only at hx)
    | ((first | (refine loopV_normal (k + 1) ?_ ⟨⟨_, rfl, rfl⟩, trivial⟩ ⟨⟨_, rfl, rfl, rfl, (by first | exact fzP_vals (fun _ => rfl) rfl |  rfl | exact fzP_pure (ints_pure _) | exact fzP_pure (u64s_pure _) | exact fzP_pure (by assumption) | exact fzP_pure (by first | (simp [pureE, pure1, ints]; done) | (simp_all [pe_int, pe_bool, pe_str, pe_sl, pe_agg, p1_int, p1_bool, p1_str, p1_sl]; done)))⟩, ⟨_, rfl, rfl, rfl, (by first | exact fzP_vals (fun _ => rfl) rfl |  rfl | exact fzP_pure (ints_pure _) | exact fzP_pure (u64s_pure _) | exact fzP_pure (by assumption) | exact fzP_pure (by first | (simp [pureE, pure1, ints]; done) | (simp_all [pe_int, pe_bool, pe_str, pe_sl, pe_agg, p1_int, p1_bool, p1_str, p1_sl]; done)))⟩, trivial⟩ ?_ ?_)); repeat (first | exact only_refl | refine only_put rfl ?_ | refine only_less rfl ?_ | refine only_ov rfl ?_))
    | (refine tr_loop_v (α := Nat × Nat × List Int) 4 (fun | (m, j, ys) => [(3, some (.int .i64 (m : Int))), (5, some (.int .i64 (j : Int))), (29, none), (30, none), (31, none), (32, none), (35, none), (36, none), (37, none), (38, none), (39, none), (40, none), (41, none), (42, none), (43, none), (44, none), (45, none), (46, none), (47, none), (48, none), (49, none), (50, none), (51, none), (52, none), (53, none), (33, none), (34, none)]) (fun | (m, j, ys) => [some ⟨0, 11, [pI i0]⟩, none, none, some ⟨g, 1, ys.map pint⟩]) (fun | (m, j, ys) => Cpk l k m j ys) (fun | (m, j, ys) => l.length - (k + j)) ((k, 1, l)) (ks := [3, 5, 29, 30, 31, 32, 35, 36, 37, 38, 39, 40, 41, 42, 43, 44, 45, 46, 47, 48, 49, 50, 51, 52, 53, 33, 34]) (fun _ => rfl) (fun _ => rfl) rfl (by omega) ?_ ⟨⟨_, rfl, rfl⟩, ⟨_, rfl, rfl⟩, trivial⟩ ⟨⟨_, rfl, rfl, rfl, (by first | exact fzP_vals (fun _ => rfl) rfl |  rfl | exact fzP_pure (ints_pure _) | exact fzP_pure (u64s_pure _) | exact fzP_pure (by assumption) | exact fzP_pure (by first | (simp [pureE, pure1, ints]; done) | (simp_all [pe_int, pe_bool, pe_str, pe_sl, pe_agg, p1_int, p1_bool, p1_str, p1_sl]; done)))⟩, ⟨_, rfl, rfl, rfl, (by first | exact fzP_vals (fun _ => rfl) rfl |  rfl | exact fzP_pure (ints_pure _) | exact fzP_pure (u64s_pure _) | exact fzP_pure (by assumption) | exact fzP_pure (by first | (simp [pureE, pure1, ints]; done) | (simp_all [pe_int, pe_bool, pe_str, pe_sl, pe_agg, p1_int, p1_bool, p1_str, p1_sl]; done)))⟩, trivial⟩ ?_; rotate_left; rintro ⟨m, j, ys⟩ hx; try dsimp only at hx)
    | ((first | (refine loopV_normal ((m, j + 1, ys)) ?_ ⟨⟨_, rfl, rfl⟩, ⟨_, rfl, rfl⟩, trivial⟩ ⟨⟨_, rfl, rfl, rfl, (by first | exact fzP_vals (fun _ => rfl) rfl |  rfl | exact fzP_pure (ints_pure _) | exact fzP_pure (u64s_pure _) | exact fzP_pure (by assumption) | exact fzP_pure (by first | (simp [pureE, pure1, ints]; done) | (simp_all [pe_int, pe_bool, pe_str, pe_sl, pe_agg, p1_int, p1_bool, p1_str, p1_sl]; done)))⟩, ⟨_, rfl, rfl, rfl, (by first | exact fzP_vals (fun _ => rfl) rfl |  rfl | exact fzP_pure (ints_pure _) | exact fzP_pure (u64s_pure _) | exact fzP_pure (by assumption) | exact fzP_pure (by first | (simp [pureE, pure1, ints]; done) | (simp_all [pe_int, pe_bool, pe_str, pe_sl, pe_agg, p1_int, p1_bool, p1_str, p1_sl]; done)))⟩, trivial⟩ ?_ ?_) | (refine loopV_normal ((m + 1, j + 1, ys.set m (ys.getD (k + j) 0))) ?_ ⟨⟨_, rfl, rfl⟩, ⟨_, rfl, rfl⟩, trivial⟩ ⟨⟨_, rfl, rfl, rfl, (by first | exact fzP_vals (fun _ => rfl) rfl |  rfl | exact fzP_pure (ints_pure _) | exact fzP_pure (u64s_pure _) | exact fzP_pure (by assumption) | exact fzP_pure (by first | (simp [pureE, pure1, ints]; done) | (simp_all [pe_int, pe_bool, pe_str, pe_sl, pe_agg, p1_int, p1_bool, p1_str, p1_sl]; done)))⟩, ⟨_, rfl, rfl, rfl, (by first | exact fzP_vals (fun _ => rfl) rfl |  rfl | exact fzP_pure (ints_pure _) | exact fzP_pure (u64s_pure _) | exact fzP_pure (by assumption) | exact fzP_pure (by first | (simp [pureE, pure1, ints]; done) | (simp_all [pe_int, pe_bool, pe_str, pe_sl, pe_agg, p1_int, p1_bool, p1_str, p1_sl]; done)))⟩, trivial⟩ ?_ ?_)); repeat (first | exact only_refl | refine only_put rfl ?_ | refine only_less rfl ?_ | refine only_ov rfl ?_))
    | ((with_reducible apply n_val); rfl; rfl)
    | ((with_reducible apply n_store); rfl; rfl; rfl; rfl; rfl)
    | (with_reducible refine condT_split (fun h => ?_) (fun h => ?_))
    | ((with_reducible apply fnQ_told_ret); rfl)
    | ((with_reducible apply fnQ_ret_soft); rfl; rfl)
  all_goals (try dsimp only at *)
  · simp only [decide_eq_true_eq] at h
    rw [cp_short (by omega)]
    rfl
  · simp only [decide_eq_true_eq] at h
    exact ⟨⟨_, rfl, rfl, rfl, rfl⟩, ⟨_, rfl, rfl, rfl, fzP_vals (fun _ => rfl) (cp_end (cp_short (by omega)))⟩, trivial⟩
  · have c3 := hx.hl
    simp only [decide_eq_true_eq] at *
    omega
  · refine hx.ne ?_ (by simpa using h)
    have c3 := hx.hl
    simp only [decide_eq_true_eq] at *
    omega
  · have c3 := hx.hl
    simp only [decide_eq_true_eq] at *
    omega
  · refine hx.eq ?_ (by simpa using h)
    have c3 := hx.hl
    simp only [decide_eq_true_eq] at *
    omega
  · have c3 := hx.fin (by simp only [decide_eq_true_eq, decide_eq_false_iff_not] at *; omega)
    rw [← c3.2.1]
    rfl
  · have c3 := hx.fin (by simp only [decide_eq_true_eq, decide_eq_false_iff_not] at *; omega)
    have c4 := hx.len
    refine ⟨⟨_, rfl, rfl, rfl, rfl⟩, ⟨_, rfl, rfl, rfl, fzP_vals (fun _ => rfl) ?_⟩, trivial⟩
    rw [c3.1, List.drop_of_length_le (by simp only [Int.toNat_natCast, Nat.zero_add] at *; omega), List.append_nil, List.length_take, Nat.min_eq_left (by omega)]
    simp
  · have hh := h
    simp only [decide_eq_true_eq, decide_eq_false_iff_not] at *
    exact Cpk.start (by omega) (by omega) (by have := ‹1 ≤ k ∧ _›; exact this.2.2) (by simpa using hh)
  · simp only [decide_eq_true_eq, decide_eq_false_iff_not] at *
    omega
  · have hh := h
    simp only [decide_eq_true_eq, decide_eq_false_iff_not] at *
    exact ⟨by omega, by omega, cp_next hx.1 (by omega) hx.2.2 (by simpa using hh)⟩
  · have e : cp l = l := by
      have := hx.2.2
      rwa [List.take_of_length_le (by simp only [decide_eq_false_iff_not] at h; omega)] at this
    rw [e]
    rfl
  · have e : cp l = l := by
      have := hx.2.2
      rwa [List.take_of_length_le (by simp only [decide_eq_false_iff_not] at h; omega)] at this
    exact ⟨⟨_, rfl, rfl, rfl, rfl⟩, ⟨_, rfl, rfl, rfl, fzP_vals (fun _ => rfl) (cp_end e)⟩, trivial⟩
  · simp only [decide_eq_false_iff_not] at *
    refine ⟨by omega, by omega, cp_short ?_⟩
    rw [List.length_take]
    omega
end
theorem p_compact0 {gl : Nat → Option PV} : Pure Go.Proofs.Tryd.prog gl 50 [.sl []] (.sl []) := by
  have hT : TabOk Go.Proofs.Tryd.prog [(50, c50)] := ⟨⟨_, b50⟩, by kernel_rfl, trivial⟩
  exact clc_sound hmix hT (k := 3) (d := 2) (by kernel_rfl)
theorem p_Vars (i : In) : Pure Go.Proofs.Tryd.prog glD 42 [pI i] (.sl (ints (varsI i))) := by
  have hd := p_Def i
  have hul := usesI_len i
  cases hf : form i with
  | false =>
    have hu := p_Uses i
    have e1 : usesI i = [] := by rw [usesI, hf]; rfl
    have e2 : defI i = -1 := by rw [defI, hf]; rfl
    have e3 : varsI i = [] := by rw [varsI, e1, e2]; rfl
    rw [e1] at hu
    rw [e2] at hd
    rw [e3]
    refine Pure.fn hmix b42 ?_
    repeat' first
      | with_reducible refine tr_seq ?_
      | ((with_reducible refine tr_region_f ?_ ?_); kernel_rfl)
      | with_reducible refine n_nil ?_
      | with_reducible refine seqQ_normal ?_
      | with_reducible refine seqQ_ret ?_
      | with_reducible refine blkQ_ret ?_
      | with_reducible refine tr_skip ?_
      | with_reducible refine tr_ret ?_
      | ((with_reducible apply tr_cond_e); rfl)
      | with_reducible refine condT_t ?_
      | with_reducible refine condT_f ?_
      | ((with_reducible refine condT_T ?_ ?_); decide +kernel)
      | ((with_reducible refine condT_F ?_ ?_); decide +kernel)
      | ((with_reducible apply n_andF); rfl; rfl; decide +kernel)
      | ((with_reducible apply n_orT); rfl; rfl; decide +kernel)
      | with_reducible refine unrQ_normal ?_
      | with_reducible refine unrQ_exit ?_
      | with_reducible refine unrQ_ret ?_
      | ((with_reducible apply n_call (f := 47)); rfl; rfl; exact hu)
      | ((with_reducible apply n_call (f := 48)); rfl; rfl; exact hd)
      | ((with_reducible apply n_val); rfl; rfl)
      | ((with_reducible apply n_new); rfl; (first | (simp only [hn0, hn1, hn2, hn3, hn4, hn5, List.length_cons, List.length_nil, Nat.reduceAdd, Nat.zero_add]; done) | (simp only [hn0, hn1, hn2, hn3, hn4, hn5, List.length_cons, List.length_nil, Nat.reduceAdd, Nat.zero_add]; rfl) | rfl); rfl)
      | ((with_reducible apply n_append); rfl; rfl; rfl; rfl; rfl; rfl; (first | decide | (simp only [List.length_append, List.length_cons, List.length_nil, List.length_set, List.length_replicate, ints_length] at *; omega)); rfl)
      | ((with_reducible apply n_append_lit); rfl; rfl; rfl; rfl; rfl; (first | decide | (simp only [List.length_append, List.length_cons, List.length_nil, List.length_set, List.length_replicate, ints_length] at *; omega)); (first | (simp only [hn0, hn1, hn2, hn3, hn4, hn5, List.length_cons, List.length_nil, Nat.reduceAdd, Nat.zero_add]; done) | (simp only [hn0, hn1, hn2, hn3, hn4, hn5, List.length_cons, List.length_nil, Nat.reduceAdd, Nat.zero_add]; rfl) | rfl); rfl)
      | ((with_reducible apply n_call (f := 49)); rfl; rfl; exact p_sort0)
      | ((with_reducible apply n_call (f := 50)); rfl; rfl; exact p_compact0)
      | (with_reducible refine condT_split (fun h => ?_) (fun h => ?_))
      | ((with_reducible apply fnQ_told_ret); rfl)
      | ((with_reducible apply fnQ_ret_soft); rfl; rfl)
      | ((with_reducible apply fnQ_ret_row); rfl; rfl; rfl)
    rfl
  | true =>
    have hu := f_Uses i hf
    rw [varsI]
    generalize usesI i = U at *
    by_cases e : defI i = -1
    · rw [e] at hd
      rw [if_pos e]
      clear hf e
      have hC := h_Compact (gl := glD) (srt (U.length - 1) U) (by rw [srt_length]; omega) U.length i
      rw [srt_length] at hC
      refine Pure.fn hmix b42 ?_
      repeat' first
        | with_reducible refine tr_seq ?_
        | ((with_reducible refine tr_region_f ?_ ?_); kernel_rfl)
        | with_reducible refine n_nil ?_
        | with_reducible refine seqQ_normal ?_
        | with_reducible refine seqQ_ret ?_
        | with_reducible refine blkQ_ret ?_
        | with_reducible refine tr_skip ?_
        | with_reducible refine tr_ret ?_
        | ((with_reducible apply tr_cond_e); rfl)
        | with_reducible refine condT_t ?_
        | with_reducible refine condT_f ?_
        | ((with_reducible refine condT_T ?_ ?_); decide +kernel)
        | ((with_reducible refine condT_F ?_ ?_); decide +kernel)
        | ((with_reducible apply n_andF); rfl; rfl; decide +kernel)
        | ((with_reducible apply n_orT); rfl; rfl; decide +kernel)
        | with_reducible refine unrQ_normal ?_
        | with_reducible refine unrQ_exit ?_
        | with_reducible refine unrQ_ret ?_
        | ((with_reducible apply n_call (f := 48)); rfl; rfl; exact hd)
        | ((with_reducible apply n_val); rfl; rfl)
        | ((with_reducible apply n_new); rfl; (first | (simp only [hn0, hn1, hn2, hn3, hn4, hn5, List.length_cons, List.length_nil, Nat.reduceAdd, Nat.zero_add]; done) | (simp only [hn0, hn1, hn2, hn3, hn4, hn5, List.length_cons, List.length_nil, Nat.reduceAdd, Nat.zero_add]; rfl) | rfl); rfl)
        | ((with_reducible apply n_append); rfl; rfl; rfl; rfl; rfl; rfl; (first | decide | (simp only [List.length_append, List.length_cons, List.length_nil, List.length_set, List.length_replicate, ints_length] at *; omega)); rfl)
        | ((with_reducible apply n_append_lit); rfl; rfl; rfl; rfl; rfl; (first | decide | (simp only [List.length_append, List.length_cons, List.length_nil, List.length_set, List.length_replicate, ints_length] at *; omega)); (first | (simp only [hn0, hn1, hn2, hn3, hn4, hn5, List.length_cons, List.length_nil, Nat.reduceAdd, Nat.zero_add]; done) | (simp only [hn0, hn1, hn2, hn3, hn4, hn5, List.length_cons, List.length_nil, Nat.reduceAdd, Nat.zero_add]; rfl) | rfl); rfl)
        | ((with_reducible apply n_freshL ); (first | (simp only [hn0, hn1, hn2, hn3, hn4, hn5, List.length_cons, List.length_nil, Nat.reduceAdd, Nat.zero_add]; done) | (simp only [hn0, hn1, hn2, hn3, hn4, hn5, List.length_cons, List.length_nil, Nat.reduceAdd, Nat.zero_add]; rfl) | rfl); rfl; rfl; exact hu; rfl; (repeat (first | exact ShL.nil | apply ShL.none | (apply ShL.some; (first | rfl | exact shiftPs_pure (u64s_pure _) | exact shiftPs_pure (ints_pure _) | exact shiftPs_pure (vals_pure (fun _ => rfl) _))))))
        | ((with_reducible apply n_specL (f := 49)); rfl; exact h_Sort U (by omega) _ i; rfl; (repeat (first | exact trivial | refine ⟨rfl, ?_⟩)); first | exact Nat.le_refl _ | exact Nat.le_of_ble_eq_true rfl)
        | ((with_reducible apply n_specL ); rfl; exact hC; rfl; (repeat (first | exact trivial | refine ⟨rfl, ?_⟩)); first | exact Nat.le_refl _ | exact Nat.le_of_ble_eq_true rfl)
        | (with_reducible refine condT_split (fun h => ?_) (fun h => ?_))
        | ((with_reducible apply fnQ_told_ret); rfl)
        | ((with_reducible apply fnQ_ret_soft); rfl; rfl)
        | ((with_reducible apply fnQ_ret_row); rfl; rfl; rfl)
      exact fnQ_ret_pre (f := pint) rfl rfl (fun _ => rfl) (len_le_app _ _) (by rw [List.take_left]; rfl)
    · have hne : (defI i != -1) = true := by simpa using e
      rw [if_neg e]
      generalize defI i = v at *
      clear hf e
      have hC := h_Compact (gl := glD) (srt ((U ++ [v]).length - 1) (U ++ [v])) (by rw [srt_length]; simp; omega) (U.length + 1) i
      rw [srt_length] at hC
      refine Pure.fn hmix b42 ?_
      repeat' first
        | with_reducible refine tr_seq ?_
        | ((with_reducible refine tr_region_f ?_ ?_); kernel_rfl)
        | with_reducible refine n_nil ?_
        | with_reducible refine seqQ_normal ?_
        | with_reducible refine seqQ_ret ?_
        | with_reducible refine blkQ_ret ?_
        | with_reducible refine tr_skip ?_
        | with_reducible refine tr_ret ?_
        | ((with_reducible apply tr_cond_e); rfl)
        | with_reducible refine condT_t ?_
        | with_reducible refine condT_f ?_
        | ((with_reducible refine condT_T ?_ ?_); decide +kernel)
        | ((with_reducible refine condT_F ?_ ?_); decide +kernel)
        | ((with_reducible apply n_andF); rfl; rfl; decide +kernel)
        | ((with_reducible apply n_orT); rfl; rfl; decide +kernel)
        | with_reducible refine unrQ_normal ?_
        | with_reducible refine unrQ_exit ?_
        | with_reducible refine unrQ_ret ?_
        | ((with_reducible apply n_call (f := 48)); rfl; rfl; exact hd)
        | ((with_reducible refine condT_T ?_ ?_); exact hne)
        | ((with_reducible apply n_append_valsL (f := pint) v); rfl; rfl; rfl; rfl; rfl; rfl; (omega); rfl)
        | ((with_reducible apply n_val); rfl; rfl)
        | ((with_reducible apply n_new); rfl; (first | (simp only [hn0, hn1, hn2, hn3, hn4, hn5, List.length_cons, List.length_nil, Nat.reduceAdd, Nat.zero_add]; done) | (simp only [hn0, hn1, hn2, hn3, hn4, hn5, List.length_cons, List.length_nil, Nat.reduceAdd, Nat.zero_add]; rfl) | rfl); rfl)
        | ((with_reducible apply n_append); rfl; rfl; rfl; rfl; rfl; rfl; (first | decide | (simp only [List.length_append, List.length_cons, List.length_nil, List.length_set, List.length_replicate, ints_length] at *; omega)); rfl)
        | ((with_reducible apply n_append_lit); rfl; rfl; rfl; rfl; rfl; (first | decide | (simp only [List.length_append, List.length_cons, List.length_nil, List.length_set, List.length_replicate, ints_length] at *; omega)); (first | (simp only [hn0, hn1, hn2, hn3, hn4, hn5, List.length_cons, List.length_nil, Nat.reduceAdd, Nat.zero_add]; done) | (simp only [hn0, hn1, hn2, hn3, hn4, hn5, List.length_cons, List.length_nil, Nat.reduceAdd, Nat.zero_add]; rfl) | rfl); rfl)
        | ((with_reducible apply n_freshL ); (first | (simp only [hn0, hn1, hn2, hn3, hn4, hn5, List.length_cons, List.length_nil, Nat.reduceAdd, Nat.zero_add]; done) | (simp only [hn0, hn1, hn2, hn3, hn4, hn5, List.length_cons, List.length_nil, Nat.reduceAdd, Nat.zero_add]; rfl) | rfl); rfl; rfl; exact hu; rfl; (repeat (first | exact ShL.nil | apply ShL.none | (apply ShL.some; (first | rfl | exact shiftPs_pure (u64s_pure _) | exact shiftPs_pure (ints_pure _) | exact shiftPs_pure (vals_pure (fun _ => rfl) _))))))
        | ((with_reducible apply n_specL (f := 49)); rfl; exact h_Sort (U ++ [v]) (by simp; omega) _ i; rfl; (repeat (first | exact trivial | refine ⟨rfl, ?_⟩)); first | exact Nat.le_refl _ | exact Nat.le_of_ble_eq_true rfl)
        | ((with_reducible apply n_specL ); rfl; exact hC; rfl; (repeat (first | exact trivial | refine ⟨rfl, ?_⟩)); first | exact Nat.le_refl _ | exact Nat.le_of_ble_eq_true rfl)
        | (with_reducible refine condT_split (fun h => ?_) (fun h => ?_))
        | ((with_reducible apply fnQ_told_ret); rfl)
        | ((with_reducible apply fnQ_ret_soft); rfl; rfl)
        | ((with_reducible apply fnQ_ret_row); rfl; rfl; rfl)
      exact fnQ_ret_pre (f := pint) rfl rfl (fun _ => rfl) (len_le_app _ _) (by rw [List.take_left]; rfl)
end Go.Vm
end
