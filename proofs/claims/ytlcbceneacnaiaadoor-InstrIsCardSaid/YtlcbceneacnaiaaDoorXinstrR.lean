/- Laid. -/
import Derived.Test.YtlcbceneacnaiaaDoorVmThree
import Derived.KernelRfl
import Derived.Test.YtlcbceneacnaiaaDoorProg
import Derived.Test.YtlcbceneacnaiaaDoorXinstrQ
import Derived.Test.YtlcbceneacnaiaaDoorLAll
section
/- Code. -/
set_option maxRecDepth 100000
set_option linter.unusedSimpArgs false
set_option linter.unusedVariables false
namespace Go.Vm
open Go

/-- bywash/bywashref05.Vars -/
def c22 : RFn := ⟨(.seq (.region (Nodes.flat none (.op (some 1) (.box (.t 0)) 0
  (.op (some 2) (.move (.c (.lit []))) 0
  .nil))) false)
 (.seq (.region (Nodes.flat none (.op (some 8) (.load (some 11) (.t 1)) 0
  (.op (some 9) (.call 20 [(.t 8)]) 0
  (.op (some 3) (.move (.t 9)) 0
  .nil)))) false)
 (.seq (.seq (.region (Nodes.flat none (.op (some 10) (.load (some 11) (.t 1)) 0
  (.op (some 11) (.call 18 [(.t 10)]) 0
  (.op (some 12) (.bin .geq (.t 11) (.c (.int .i64 0))) 0
  .nil)))) false)
 (.cond (.t 12)
 (.region (Nodes.flat none (.op (some 13) (.move (.t 3)) 0
  (.op (some 14) (.load (some 11) (.t 1)) 0
  (.op (some 15) (.call 18 [(.t 14)]) 0
  (.op (some 16) (.call 48 [(.t 13), (.t 15)]) 0
  (.op (some 3) (.move (.t 16)) 0
  .nil)))))) false)
 .skip))
 (.seq (.region (Nodes.flat none (.op (some 4) (.move (.c (.lit []))) 0
  .nil)) false)
 (.seq (.block 0 (.loop (.seq (.seq (.region (Nodes.flat none (.op (some 17) (.move (.t 4)) 0
  (.op (some 18) (.len false (.t 17)) 0
  (.op (some 19) (.move (.t 3)) 0
  (.op (some 20) (.len false (.t 19)) 0
  (.op (some 21) (.bin .lss (.t 18) (.t 20)) 0
  .nil)))))) false)
 (.cond (.t 21)
 .skip
 (.exit 0)))
 (.block 1 (.seq (.region (Nodes.flat none (.op (some 5) (.move (.c (.int .i64 (-1)))) 0
  .nil)) false)
 (.seq (.seq (.region (Nodes.flat none (.op (some 6) (.move (.c (.int .i64 0))) 0
  .nil)) false)
 (.block 2 (.loop (.seq (.seq (.region (Nodes.flat none (.op (some 22) (.move (.t 6)) 0
  (.op (some 23) (.move (.t 3)) 0
  (.op (some 24) (.len false (.t 23)) 0
  (.op (some 25) (.bin .lss (.t 22) (.t 24)) 0
  .nil))))) false)
 (.cond (.t 25)
 .skip
 (.exit 2)))
 (.seq (.block 3 (.seq (.region (Nodes.flat none (.op (some 28) (.move (.t 4)) 0
  (.op (some 29) (.len false (.t 28)) 1
  (.op (some 30) (.bin .eql (.t 29) (.c (.int .i64 0))) 3
  (.op (some 31) (.move (.t 30)) 7
  (.grd 31 false
  (.op (some 32) (.move (.t 3)) 15
  (.op (some 33) (.move (.t 6)) 15
  (.op (some 34) (.idxAddr 1 (.t 32) (.t 33)) 63
  (.op (some 35) (.load none (.t 34)) 127
  (.op (some 36) (.move (.t 4)) 15
  (.op (some 37) (.move (.t 4)) 15
  (.op (some 38) (.len false (.t 37)) 527
  (.op (some 39) (.bin .sub (.t 38) (.c (.int .i64 1))) 1551
  (.op (some 40) (.idxAddr 1 (.t 36) (.t 39)) 3855
  (.op (some 41) (.load none (.t 40)) 7951
  (.op (some 42) (.bin .gtr (.t 35) (.t 41)) 16383
  .nil)))))))))))
  (.op (some 43) (.pick (.t 31) (.c (.bool true)) (.t 42)) 32767
  (.op (some 7) (.move (.t 43)) 65535
  .nil)))))))) true)
 (.seq (.region (Nodes.flat none (.op (some 44) (.move (.t 7)) 0
  (.op (some 45) (.move (.t 44)) 0
  (.grd 45 true
  (.op (some 46) (.move (.t 5)) 0
  (.op (some 47) (.bin .lss (.t 46) (.c (.int .i64 0))) 0
  (.op (some 48) (.move (.t 47)) 0
  (.grd 48 false
  (.op (some 49) (.move (.t 3)) 0
  (.op (some 50) (.move (.t 6)) 0
  (.op (some 51) (.idxAddr 1 (.t 49) (.t 50)) 0
  (.op (some 52) (.load none (.t 51)) 0
  (.op (some 53) (.move (.t 5)) 0
  (.op (some 54) (.bin .lss (.t 52) (.t 53)) 0
  .nil))))))
  (.op (some 55) (.pick (.t 48) (.c (.bool true)) (.t 54)) 0
  .nil)))))
  (.op (some 56) (.pick (.t 45) (.t 55) (.c (.bool false))) 0
  .nil))))) false)
 (.cond (.t 56)
 (.region (Nodes.flat none (.op (some 57) (.move (.t 3)) 0
  (.op (some 58) (.move (.t 6)) 0
  (.op (some 59) (.idxAddr 1 (.t 57) (.t 58)) 0
  (.op (some 60) (.load none (.t 59)) 0
  (.op (some 5) (.move (.t 60)) 0
  .nil)))))) false)
 .skip))))
 (.region (Nodes.flat none (.op (some 26) (.move (.t 6)) 0
  (.op (some 27) (.bin .add (.t 26) (.c (.int .i64 1))) 0
  (.op (some 6) (.move (.t 27)) 0
  .nil)))) false))))))
 (.region (Nodes.flat none (.op (some 61) (.move (.t 4)) 0
  (.op (some 62) (.move (.t 5)) 0
  (.op (some 63) (.bslice false 1 1 (.int .i64 0) [(0, (.t 62))]) 0
  (.op (some 64) (.append 1 (.int .i64 0) (.t 61) (.t 63)) 0
  (.op (some 4) (.move (.t 64)) 0
  .nil)))))) false)))))))
 (.seq (.region (Nodes.flat none (.op (some 65) (.move (.t 4)) 0
  (.op (some 2) (.move (.t 65)) 0
  .nil))) false)
 .ret)))))),
 [.tmp 2]⟩
theorem b22 : fnOf Go.Proofs.Tryd.prog (owOf [(13, 2)]) 22 = some c22 := by kernel_rfl

end Go.Vm

end

section
/- Walks. -/
set_option maxRecDepth 100000
set_option linter.unusedSimpArgs false
set_option linter.unusedVariables false
namespace Go.Vm
open Go

set_option maxHeartbeats 4000000
section
variable {gl : Nat → Option PV}
theorem p_r5_Vars3 (i : In) (hne : usesI i ≠ []) : Pure Go.Proofs.Tryd.prog gl 22 [pI i] (.sl (ints (varsI i))) := by
  have hf : form i = true := by
    cases hf : form i with
    | true => rfl
    | false => exact absurd (by rw [usesI, hf]; rfl) hne
  obtain ⟨G, hu⟩ := f_r5_Uses (gl := gl) i hf hne
  have hd := p_r5_Def (gl := gl) i
  have hul := usesI_len i
  have hA := h_add2 (gl := gl) (usesI i) (by omega) G (defI i) i
  have hS := vars_spec i
  have hl := vars_length i
  have hm := vars_mem i
  have hg : ∀ x ∈ allI i, 0 ≤ x := fun x => all_ge
  have hdg := def_ge i
  generalize varsI i = S at *
  by_cases e : defI i = -1
  · have ea : allI i = usesI i := by rw [allI, if_pos e]
    rw [ea] at hl hm hg
    rw [e] at hd
    have hS1 := hS.1
    clear hS hne hf hA hdg ea e
    generalize usesI i = l at *
    refine Pure.fn hmix b22 ?_
    repeat' first
      | (refine tr_virt 4 1 3 rfl (by omega) rfl ?_)
      | with_reducible refine tr_seq ?_
      | ((with_reducible refine tr_region_f ?_ ?_); kernel_rfl)
      | ((with_reducible refine tr_region_t ?_ ?_ ?_); kernel_rfl; kernel_rfl)
      | with_reducible refine n_nil ?_
      | exact ⟨rfl, rfl⟩
      | with_reducible refine seqQ_normal ?_
      | with_reducible refine seqQ_exit ?_
      | with_reducible refine seqQ_ret ?_
      | with_reducible refine blkQ_normal ?_
      | with_reducible refine blkQ_exit ?_
      | with_reducible refine blkQ_ret ?_
      | ((with_reducible refine blkQ_exit_ne ?_ ?_); rfl)
      | with_reducible refine tr_block ?_
      | with_reducible refine tr_skip ?_
      | with_reducible refine tr_exit ?_
      | with_reducible refine tr_ret ?_
      | ((with_reducible apply tr_cond_e); rfl)
      | with_reducible refine condT_t ?_
      | with_reducible refine condT_f ?_
      | ((with_reducible refine condT_T ?_ ?_); decide +kernel)
      | ((with_reducible refine condT_F ?_ ?_); decide +kernel)
      | ((with_reducible apply n_andF); rfl; rfl; decide +kernel)
      | ((with_reducible apply n_orT); rfl; rfl; decide +kernel)
      | ((with_reducible apply n_and); rfl; rfl; intro h)
      | ((with_reducible apply n_or); rfl; rfl; intro h)
      | with_reducible refine loopV_exit ?_
      | with_reducible refine loopV_ret ?_
      | with_reducible refine unrQ_normal ?_
      | with_reducible refine unrQ_exit ?_
      | with_reducible refine unrQ_ret ?_
      | ((with_reducible apply n_call (f := 18)); rfl; rfl; exact hd)
      | ((with_reducible apply n_idx_own); rfl; rfl; rfl; (first | omega | (have c1 := hx.1; simp only [beq_eq_false_iff_ne, beq_iff_eq, ne_eq, decide_eq_true_eq, decide_eq_false_iff_not, Bool.or_eq_false_iff, Bool.not_eq_true', Bool.not_eq_false', Bool.not_true, Bool.not_false, ints_length, List.length_map, List.length_take] at *; omega)))
      | ((with_reducible apply n_load_vals (f := pint) (0 : Int)); rfl; rfl; rfl; (first | omega | (have c1 := hx.1; simp only [beq_eq_false_iff_ne, beq_iff_eq, ne_eq, decide_eq_true_eq, decide_eq_false_iff_not, Bool.or_eq_false_iff, Bool.not_eq_true', Bool.not_eq_false', Bool.not_true, Bool.not_false, ints_length, List.length_map, List.length_take] at *; omega)))
      | ((with_reducible apply n_append_vals (f := pint)); rfl; rfl; rfl; rfl; rfl; exact (by rw [List.length_take]; omega); (first | omega | (have c1 := hx.1; simp only [beq_eq_false_iff_ne, beq_iff_eq, ne_eq, decide_eq_true_eq, decide_eq_false_iff_not, Bool.or_eq_false_iff, Bool.not_eq_true', Bool.not_eq_false', Bool.not_true, Bool.not_false, ints_length, List.length_map, List.length_take] at *; omega)))
      | (first | ((with_reducible apply n_bin); rfl; rfl; focus ((with_reducible (first | apply b_add | apply b_sub)) <;> first | omega | (have c1 := hx.1; simp only [beq_eq_false_iff_ne, beq_iff_eq, ne_eq, decide_eq_true_eq, decide_eq_false_iff_not, Bool.or_eq_false_iff, Bool.not_eq_true', Bool.not_eq_false', Bool.not_true, Bool.not_false, ints_length, List.length_map, List.length_take] at *; omega))) | ((with_reducible apply n_max); rfl; rfl) | ((with_reducible apply n_min); rfl; rfl))
      | (refine tr_loop_v (α := Nat) 4 (fun | k => [(4, some (.ref 3 k 0 k)), (17, none), (18, none), (19, none), (20, none), (21, none), (5, none), (6, none), (22, none), (23, none), (24, none), (25, none), (28, none), (29, none), (30, none), (31, none), (32, none), (33, none), (34, none), (35, none), (36, none), (37, none), (38, none), (39, none), (40, none), (41, none), (42, none), (43, none), (7, none), (44, none), (45, none), (46, none), (47, none), (48, none), (49, none), (50, none), (51, none), (52, none), (53, none), (54, none), (55, none), (56, none), (57, none), (58, none), (59, none), (60, none), (26, none), (27, none), (61, none), (62, none), (63, none), (64, none)]) (fun | k => [some ⟨0, 11, [pI i]⟩, none, some ⟨G, 1, l.map pint⟩, some ⟨k, 1, (S.take k).map pint⟩]) (fun | k => k ≤ S.length) (fun | k => S.length - k) (0) (ks := [4, 17, 18, 19, 20, 21, 5, 6, 22, 23, 24, 25, 28, 29, 30, 31, 32, 33, 34, 35, 36, 37, 38, 39, 40, 41, 42, 43, 7, 44, 45, 46, 47, 48, 49, 50, 51, 52, 53, 54, 55, 56, 57, 58, 59, 60, 26, 27, 61, 62, 63, 64]) (fun _ => rfl) (fun _ => rfl) rfl (by omega) ?_ ⟨⟨_, rfl, rfl⟩, trivial⟩ ⟨⟨_, rfl, rfl, rfl, (by first | exact fzP_vals (fun _ => rfl) rfl | exact fzP_vals (fun _ => rfl) (hx.snoc hS1 hm (by simpa [hl] using ‹decide ((k : Int) < (l.length : Nat)) = true›) (by simpa using h)) |  rfl | exact fzP_pure (ints_pure _) | exact fzP_pure (u64s_pure _) | exact fzP_pure (by assumption) | exact fzP_pure (by first | (simp [pureE, pure1, ints]; done) | (simp_all [pe_int, pe_bool, pe_str, pe_sl, pe_agg, p1_int, p1_bool, p1_str, p1_sl]; done)))⟩, ⟨_, rfl, rfl, rfl, (by first | exact fzP_vals (fun _ => rfl) rfl | exact fzP_vals (fun _ => rfl) (hx.snoc hS1 hm (by simpa [hl] using ‹decide ((k : Int) < (l.length : Nat)) = true›) (by simpa using h)) |  rfl | exact fzP_pure (ints_pure _) | exact fzP_pure (u64s_pure _) | exact fzP_pure (by assumption) | exact fzP_pure (by first | (simp [pureE, pure1, ints]; done) | (simp_all [pe_int, pe_bool, pe_str, pe_sl, pe_agg, p1_int, p1_bool, p1_str, p1_sl]; done)))⟩, ⟨_, rfl, rfl, rfl, (by first | exact fzP_vals (fun _ => rfl) rfl | exact fzP_vals (fun _ => rfl) (hx.snoc hS1 hm (by simpa [hl] using ‹decide ((k : Int) < (l.length : Nat)) = true›) (by simpa using h)) |  rfl | exact fzP_pure (ints_pure _) | exact fzP_pure (u64s_pure _) | exact fzP_pure (by assumption) | exact fzP_pure (by first | (simp [pureE, pure1, ints]; done) | (simp_all [pe_int, pe_bool, pe_str, pe_sl, pe_agg, p1_int, p1_bool, p1_str, p1_sl]; done)))⟩, trivial⟩ ?_; rotate_left; rintro k hx; try dsimp only at hx)
      | ((first | (refine loopV_normal (k + 1) ?_ ⟨⟨_, rfl, rfl⟩, trivial⟩ ⟨⟨_, rfl, rfl, rfl, (by first | exact fzP_vals (fun _ => rfl) rfl | exact fzP_vals (fun _ => rfl) (hx.snoc hS1 hm (by simpa [hl] using ‹decide ((k : Int) < (l.length : Nat)) = true›) (by simpa using h)) |  rfl | exact fzP_pure (ints_pure _) | exact fzP_pure (u64s_pure _) | exact fzP_pure (by assumption) | exact fzP_pure (by first | (simp [pureE, pure1, ints]; done) | (simp_all [pe_int, pe_bool, pe_str, pe_sl, pe_agg, p1_int, p1_bool, p1_str, p1_sl]; done)))⟩, ⟨_, rfl, rfl, rfl, (by first | exact fzP_vals (fun _ => rfl) rfl | exact fzP_vals (fun _ => rfl) (hx.snoc hS1 hm (by simpa [hl] using ‹decide ((k : Int) < (l.length : Nat)) = true›) (by simpa using h)) |  rfl | exact fzP_pure (ints_pure _) | exact fzP_pure (u64s_pure _) | exact fzP_pure (by assumption) | exact fzP_pure (by first | (simp [pureE, pure1, ints]; done) | (simp_all [pe_int, pe_bool, pe_str, pe_sl, pe_agg, p1_int, p1_bool, p1_str, p1_sl]; done)))⟩, ⟨_, rfl, rfl, rfl, (by first | exact fzP_vals (fun _ => rfl) rfl | exact fzP_vals (fun _ => rfl) (hx.snoc hS1 hm (by simpa [hl] using ‹decide ((k : Int) < (l.length : Nat)) = true›) (by simpa using h)) |  rfl | exact fzP_pure (ints_pure _) | exact fzP_pure (u64s_pure _) | exact fzP_pure (by assumption) | exact fzP_pure (by first | (simp [pureE, pure1, ints]; done) | (simp_all [pe_int, pe_bool, pe_str, pe_sl, pe_agg, p1_int, p1_bool, p1_str, p1_sl]; done)))⟩, trivial⟩ ?_ ?_)); repeat (first | exact only_refl | refine only_put rfl ?_ | refine only_less rfl ?_ | refine only_ov rfl ?_))
      | (refine tr_loop_v (α := Nat × Int) 4 (fun | (j, b) => [(5, some (.int .i64 b)), (6, some (.int .i64 (j : Int))), (22, none), (23, none), (24, none), (25, none), (28, none), (29, none), (30, none), (31, none), (32, none), (33, none), (34, none), (35, none), (36, none), (37, none), (38, none), (39, none), (40, none), (41, none), (42, none), (43, none), (7, none), (44, none), (45, none), (46, none), (47, none), (48, none), (49, none), (50, none), (51, none), (52, none), (53, none), (54, none), (55, none), (56, none), (57, none), (58, none), (59, none), (60, none), (26, none), (27, none)]) (fun | (j, b) => [some ⟨0, 11, [pI i]⟩, none, some ⟨G, 1, l.map pint⟩, some ⟨k, 1, (S.take k).map pint⟩]) (fun | (j, b) => Bst l S k j b) (fun | (j, b) => l.length - j) ((0, -1)) (ks := [5, 6, 22, 23, 24, 25, 28, 29, 30, 31, 32, 33, 34, 35, 36, 37, 38, 39, 40, 41, 42, 43, 7, 44, 45, 46, 47, 48, 49, 50, 51, 52, 53, 54, 55, 56, 57, 58, 59, 60, 26, 27]) (fun _ => rfl) (fun _ => rfl) rfl (by omega) ?_ ⟨⟨_, rfl, rfl⟩, ⟨_, rfl, rfl⟩, trivial⟩ ⟨⟨_, rfl, rfl, rfl, (by first | exact fzP_vals (fun _ => rfl) rfl | exact fzP_vals (fun _ => rfl) (hx.snoc hS1 hm (by simpa [hl] using ‹decide ((k : Int) < (l.length : Nat)) = true›) (by simpa using h)) |  rfl | exact fzP_pure (ints_pure _) | exact fzP_pure (u64s_pure _) | exact fzP_pure (by assumption) | exact fzP_pure (by first | (simp [pureE, pure1, ints]; done) | (simp_all [pe_int, pe_bool, pe_str, pe_sl, pe_agg, p1_int, p1_bool, p1_str, p1_sl]; done)))⟩, ⟨_, rfl, rfl, rfl, (by first | exact fzP_vals (fun _ => rfl) rfl | exact fzP_vals (fun _ => rfl) (hx.snoc hS1 hm (by simpa [hl] using ‹decide ((k : Int) < (l.length : Nat)) = true›) (by simpa using h)) |  rfl | exact fzP_pure (ints_pure _) | exact fzP_pure (u64s_pure _) | exact fzP_pure (by assumption) | exact fzP_pure (by first | (simp [pureE, pure1, ints]; done) | (simp_all [pe_int, pe_bool, pe_str, pe_sl, pe_agg, p1_int, p1_bool, p1_str, p1_sl]; done)))⟩, ⟨_, rfl, rfl, rfl, (by first | exact fzP_vals (fun _ => rfl) rfl | exact fzP_vals (fun _ => rfl) (hx.snoc hS1 hm (by simpa [hl] using ‹decide ((k : Int) < (l.length : Nat)) = true›) (by simpa using h)) |  rfl | exact fzP_pure (ints_pure _) | exact fzP_pure (u64s_pure _) | exact fzP_pure (by assumption) | exact fzP_pure (by first | (simp [pureE, pure1, ints]; done) | (simp_all [pe_int, pe_bool, pe_str, pe_sl, pe_agg, p1_int, p1_bool, p1_str, p1_sl]; done)))⟩, trivial⟩ ?_; rotate_left; rintro ⟨j, b⟩ hx; try dsimp only at hx)
      | ((first | (refine loopV_normal ((j + 1, b)) ?_ ⟨⟨_, rfl, rfl⟩, ⟨_, rfl, rfl⟩, trivial⟩ ⟨⟨_, rfl, rfl, rfl, (by first | exact fzP_vals (fun _ => rfl) rfl | exact fzP_vals (fun _ => rfl) (hx.snoc hS1 hm (by simpa [hl] using ‹decide ((k : Int) < (l.length : Nat)) = true›) (by simpa using h)) |  rfl | exact fzP_pure (ints_pure _) | exact fzP_pure (u64s_pure _) | exact fzP_pure (by assumption) | exact fzP_pure (by first | (simp [pureE, pure1, ints]; done) | (simp_all [pe_int, pe_bool, pe_str, pe_sl, pe_agg, p1_int, p1_bool, p1_str, p1_sl]; done)))⟩, ⟨_, rfl, rfl, rfl, (by first | exact fzP_vals (fun _ => rfl) rfl | exact fzP_vals (fun _ => rfl) (hx.snoc hS1 hm (by simpa [hl] using ‹decide ((k : Int) < (l.length : Nat)) = true›) (by simpa using h)) |  rfl | exact fzP_pure (ints_pure _) | exact fzP_pure (u64s_pure _) | exact fzP_pure (by assumption) | exact fzP_pure (by first | (simp [pureE, pure1, ints]; done) | (simp_all [pe_int, pe_bool, pe_str, pe_sl, pe_agg, p1_int, p1_bool, p1_str, p1_sl]; done)))⟩, ⟨_, rfl, rfl, rfl, (by first | exact fzP_vals (fun _ => rfl) rfl | exact fzP_vals (fun _ => rfl) (hx.snoc hS1 hm (by simpa [hl] using ‹decide ((k : Int) < (l.length : Nat)) = true›) (by simpa using h)) |  rfl | exact fzP_pure (ints_pure _) | exact fzP_pure (u64s_pure _) | exact fzP_pure (by assumption) | exact fzP_pure (by first | (simp [pureE, pure1, ints]; done) | (simp_all [pe_int, pe_bool, pe_str, pe_sl, pe_agg, p1_int, p1_bool, p1_str, p1_sl]; done)))⟩, trivial⟩ ?_ ?_) | (refine loopV_normal ((j + 1, l.getD j 0)) ?_ ⟨⟨_, rfl, rfl⟩, ⟨_, rfl, rfl⟩, trivial⟩ ⟨⟨_, rfl, rfl, rfl, (by first | exact fzP_vals (fun _ => rfl) rfl | exact fzP_vals (fun _ => rfl) (hx.snoc hS1 hm (by simpa [hl] using ‹decide ((k : Int) < (l.length : Nat)) = true›) (by simpa using h)) |  rfl | exact fzP_pure (ints_pure _) | exact fzP_pure (u64s_pure _) | exact fzP_pure (by assumption) | exact fzP_pure (by first | (simp [pureE, pure1, ints]; done) | (simp_all [pe_int, pe_bool, pe_str, pe_sl, pe_agg, p1_int, p1_bool, p1_str, p1_sl]; done)))⟩, ⟨_, rfl, rfl, rfl, (by first | exact fzP_vals (fun _ => rfl) rfl | exact fzP_vals (fun _ => rfl) (hx.snoc hS1 hm (by simpa [hl] using ‹decide ((k : Int) < (l.length : Nat)) = true›) (by simpa using h)) |  rfl | exact fzP_pure (ints_pure _) | exact fzP_pure (u64s_pure _) | exact fzP_pure (by assumption) | exact fzP_pure (by first | (simp [pureE, pure1, ints]; done) | (simp_all [pe_int, pe_bool, pe_str, pe_sl, pe_agg, p1_int, p1_bool, p1_str, p1_sl]; done)))⟩, ⟨_, rfl, rfl, rfl, (by first | exact fzP_vals (fun _ => rfl) rfl | exact fzP_vals (fun _ => rfl) (hx.snoc hS1 hm (by simpa [hl] using ‹decide ((k : Int) < (l.length : Nat)) = true›) (by simpa using h)) |  rfl | exact fzP_pure (ints_pure _) | exact fzP_pure (u64s_pure _) | exact fzP_pure (by assumption) | exact fzP_pure (by first | (simp [pureE, pure1, ints]; done) | (simp_all [pe_int, pe_bool, pe_str, pe_sl, pe_agg, p1_int, p1_bool, p1_str, p1_sl]; done)))⟩, trivial⟩ ?_ ?_)); repeat (first | exact only_refl | refine only_put rfl ?_ | refine only_less rfl ?_ | refine only_ov rfl ?_))
      | ((with_reducible apply n_val); rfl; rfl)
      | ((with_reducible apply n_new); rfl; (first | (simp only [hn0, hn1, hn2, hn3, hn4, hn5, List.length_cons, List.length_nil, Nat.reduceAdd, Nat.zero_add]; done) | (simp only [hn0, hn1, hn2, hn3, hn4, hn5, List.length_cons, List.length_nil, Nat.reduceAdd, Nat.zero_add]; rfl) | rfl); rfl)
      | ((with_reducible apply n_append); rfl; rfl; rfl; rfl; rfl; rfl; (first | decide | (simp only [List.length_append, List.length_cons, List.length_nil, List.length_set, List.length_replicate, ints_length] at *; omega)); rfl)
      | ((with_reducible apply n_append_lit); rfl; rfl; rfl; rfl; rfl; (first | decide | (simp only [List.length_append, List.length_cons, List.length_nil, List.length_set, List.length_replicate, ints_length] at *; omega)); (first | (simp only [hn0, hn1, hn2, hn3, hn4, hn5, List.length_cons, List.length_nil, Nat.reduceAdd, Nat.zero_add]; done) | (simp only [hn0, hn1, hn2, hn3, hn4, hn5, List.length_cons, List.length_nil, Nat.reduceAdd, Nat.zero_add]; rfl) | rfl); rfl)
      | ((with_reducible apply n_freshL ); (first | (simp only [hn0, hn1, hn2, hn3, hn4, hn5, List.length_cons, List.length_nil, Nat.reduceAdd, Nat.zero_add]; done) | (simp only [hn0, hn1, hn2, hn3, hn4, hn5, List.length_cons, List.length_nil, Nat.reduceAdd, Nat.zero_add]; rfl) | rfl); rfl; rfl; exact hu; rfl; (repeat (first | exact ShL.nil | apply ShL.none | (apply ShL.some; (first | rfl | exact shiftPs_pure (u64s_pure _) | exact shiftPs_pure (ints_pure _) | exact shiftPs_pure (vals_pure (fun _ => rfl) _))))))
      | (with_reducible refine condT_split (fun h => ?_) (fun h => ?_))
      | ((with_reducible apply fnQ_told_ret); rfl)
      | ((with_reducible apply fnQ_ret_soft); rfl; rfl)
      | ((with_reducible apply fnQ_ret_row); rfl; rfl; rfl)
    all_goals (try dsimp only at *)
    · simp only [decide_eq_true_eq] at *; omega
    · exact bst_take hx hg ‹decide ((j : Int) < (l.length : Nat)) = true› (by omega) h
    · simp only [decide_eq_true_eq] at *; omega
    · exact bst_pass hx ‹decide ((j : Int) < (l.length : Nat)) = true› (by omega) h
    · simp only [decide_eq_true_eq] at *; omega
    · simp only [decide_eq_true_eq] at *; omega
    · exact Bst.start _ _ _
    · have e : S.take k = S := List.take_of_length_le (by simp only [decide_eq_false_iff_not] at h; omega)
      exact fnQ_ret_vals (f := pint) rfl rfl (fun _ => rfl) (by rw [List.length_take]; omega) (by rw [e]; rfl)
    · omega
  · have ea : allI i = dd (usesI i) (defI i) := by rw [allI, if_neg e]
    rw [ea] at hl hm hg
    have hS1 := hS.1
    have hdl := dd_len (usesI i) (defI i)
    have hge : decide (defI i ≥ 0) = true := by rw [decide_eq_true_eq]; omega
    clear hS hne hf hdg ea e
    generalize gA G (usesI i) (defI i) = G2 at *
    generalize dd (usesI i) (defI i) = l at *
    generalize usesI i = U at *
    generalize defI i = v at *
    refine Pure.fn hmix b22 ?_
    repeat' first
      | (refine tr_virt 4 1 3 rfl (by omega) rfl ?_)
      | with_reducible refine tr_seq ?_
      | ((with_reducible refine tr_region_f ?_ ?_); kernel_rfl)
      | ((with_reducible refine tr_region_t ?_ ?_ ?_); kernel_rfl; kernel_rfl)
      | with_reducible refine n_nil ?_
      | exact ⟨rfl, rfl⟩
      | with_reducible refine seqQ_normal ?_
      | with_reducible refine seqQ_exit ?_
      | with_reducible refine seqQ_ret ?_
      | with_reducible refine blkQ_normal ?_
      | with_reducible refine blkQ_exit ?_
      | with_reducible refine blkQ_ret ?_
      | ((with_reducible refine blkQ_exit_ne ?_ ?_); rfl)
      | with_reducible refine tr_block ?_
      | with_reducible refine tr_skip ?_
      | with_reducible refine tr_exit ?_
      | with_reducible refine tr_ret ?_
      | ((with_reducible apply tr_cond_e); rfl)
      | with_reducible refine condT_t ?_
      | with_reducible refine condT_f ?_
      | ((with_reducible refine condT_T ?_ ?_); decide +kernel)
      | ((with_reducible refine condT_F ?_ ?_); decide +kernel)
      | ((with_reducible apply n_andF); rfl; rfl; decide +kernel)
      | ((with_reducible apply n_orT); rfl; rfl; decide +kernel)
      | ((with_reducible apply n_and); rfl; rfl; intro h)
      | ((with_reducible apply n_or); rfl; rfl; intro h)
      | with_reducible refine loopV_exit ?_
      | with_reducible refine loopV_ret ?_
      | with_reducible refine unrQ_normal ?_
      | with_reducible refine unrQ_exit ?_
      | with_reducible refine unrQ_ret ?_
      | ((with_reducible apply n_call (f := 18)); rfl; rfl; exact hd)
      | ((with_reducible refine condT_T ?_ ?_); exact hge)
      | ((with_reducible apply n_idx_own); rfl; rfl; rfl; (first | omega | (have c1 := hx.1; simp only [beq_eq_false_iff_ne, beq_iff_eq, ne_eq, decide_eq_true_eq, decide_eq_false_iff_not, Bool.or_eq_false_iff, Bool.not_eq_true', Bool.not_eq_false', Bool.not_true, Bool.not_false, ints_length, List.length_map, List.length_take] at *; omega)))
      | ((with_reducible apply n_load_vals (f := pint) (0 : Int)); rfl; rfl; rfl; (first | omega | (have c1 := hx.1; simp only [beq_eq_false_iff_ne, beq_iff_eq, ne_eq, decide_eq_true_eq, decide_eq_false_iff_not, Bool.or_eq_false_iff, Bool.not_eq_true', Bool.not_eq_false', Bool.not_true, Bool.not_false, ints_length, List.length_map, List.length_take] at *; omega)))
      | ((with_reducible apply n_append_vals (f := pint)); rfl; rfl; rfl; rfl; rfl; exact (by rw [List.length_take]; omega); (first | omega | (have c1 := hx.1; simp only [beq_eq_false_iff_ne, beq_iff_eq, ne_eq, decide_eq_true_eq, decide_eq_false_iff_not, Bool.or_eq_false_iff, Bool.not_eq_true', Bool.not_eq_false', Bool.not_true, Bool.not_false, ints_length, List.length_map, List.length_take] at *; omega)))
      | (first | ((with_reducible apply n_bin); rfl; rfl; focus ((with_reducible (first | apply b_add | apply b_sub)) <;> first | omega | (have c1 := hx.1; simp only [beq_eq_false_iff_ne, beq_iff_eq, ne_eq, decide_eq_true_eq, decide_eq_false_iff_not, Bool.or_eq_false_iff, Bool.not_eq_true', Bool.not_eq_false', Bool.not_true, Bool.not_false, ints_length, List.length_map, List.length_take] at *; omega))) | ((with_reducible apply n_max); rfl; rfl) | ((with_reducible apply n_min); rfl; rfl))
      | (refine tr_loop_v (α := Nat) 4 (fun | k => [(4, some (.ref 3 k 0 k)), (17, none), (18, none), (19, none), (20, none), (21, none), (5, none), (6, none), (22, none), (23, none), (24, none), (25, none), (28, none), (29, none), (30, none), (31, none), (32, none), (33, none), (34, none), (35, none), (36, none), (37, none), (38, none), (39, none), (40, none), (41, none), (42, none), (43, none), (7, none), (44, none), (45, none), (46, none), (47, none), (48, none), (49, none), (50, none), (51, none), (52, none), (53, none), (54, none), (55, none), (56, none), (57, none), (58, none), (59, none), (60, none), (26, none), (27, none), (61, none), (62, none), (63, none), (64, none)]) (fun | k => [some ⟨0, 11, [pI i]⟩, none, some ⟨G2, 1, l.map pint⟩, some ⟨k, 1, (S.take k).map pint⟩]) (fun | k => k ≤ S.length) (fun | k => S.length - k) (0) (ks := [4, 17, 18, 19, 20, 21, 5, 6, 22, 23, 24, 25, 28, 29, 30, 31, 32, 33, 34, 35, 36, 37, 38, 39, 40, 41, 42, 43, 7, 44, 45, 46, 47, 48, 49, 50, 51, 52, 53, 54, 55, 56, 57, 58, 59, 60, 26, 27, 61, 62, 63, 64]) (fun _ => rfl) (fun _ => rfl) rfl (by omega) ?_ ⟨⟨_, rfl, rfl⟩, trivial⟩ ⟨⟨_, rfl, rfl, rfl, (by first | exact fzP_vals (fun _ => rfl) rfl | exact fzP_vals (fun _ => rfl) (hx.snoc hS1 hm (by simpa [hl] using ‹decide ((k : Int) < (l.length : Nat)) = true›) (by simpa using h)) |  rfl | exact fzP_pure (ints_pure _) | exact fzP_pure (u64s_pure _) | exact fzP_pure (by assumption) | exact fzP_pure (by first | (simp [pureE, pure1, ints]; done) | (simp_all [pe_int, pe_bool, pe_str, pe_sl, pe_agg, p1_int, p1_bool, p1_str, p1_sl]; done)))⟩, ⟨_, rfl, rfl, rfl, (by first | exact fzP_vals (fun _ => rfl) rfl | exact fzP_vals (fun _ => rfl) (hx.snoc hS1 hm (by simpa [hl] using ‹decide ((k : Int) < (l.length : Nat)) = true›) (by simpa using h)) |  rfl | exact fzP_pure (ints_pure _) | exact fzP_pure (u64s_pure _) | exact fzP_pure (by assumption) | exact fzP_pure (by first | (simp [pureE, pure1, ints]; done) | (simp_all [pe_int, pe_bool, pe_str, pe_sl, pe_agg, p1_int, p1_bool, p1_str, p1_sl]; done)))⟩, ⟨_, rfl, rfl, rfl, (by first | exact fzP_vals (fun _ => rfl) rfl | exact fzP_vals (fun _ => rfl) (hx.snoc hS1 hm (by simpa [hl] using ‹decide ((k : Int) < (l.length : Nat)) = true›) (by simpa using h)) |  rfl | exact fzP_pure (ints_pure _) | exact fzP_pure (u64s_pure _) | exact fzP_pure (by assumption) | exact fzP_pure (by first | (simp [pureE, pure1, ints]; done) | (simp_all [pe_int, pe_bool, pe_str, pe_sl, pe_agg, p1_int, p1_bool, p1_str, p1_sl]; done)))⟩, trivial⟩ ?_; rotate_left; rintro k hx; try dsimp only at hx)
      | ((first | (refine loopV_normal (k + 1) ?_ ⟨⟨_, rfl, rfl⟩, trivial⟩ ⟨⟨_, rfl, rfl, rfl, (by first | exact fzP_vals (fun _ => rfl) rfl | exact fzP_vals (fun _ => rfl) (hx.snoc hS1 hm (by simpa [hl] using ‹decide ((k : Int) < (l.length : Nat)) = true›) (by simpa using h)) |  rfl | exact fzP_pure (ints_pure _) | exact fzP_pure (u64s_pure _) | exact fzP_pure (by assumption) | exact fzP_pure (by first | (simp [pureE, pure1, ints]; done) | (simp_all [pe_int, pe_bool, pe_str, pe_sl, pe_agg, p1_int, p1_bool, p1_str, p1_sl]; done)))⟩, ⟨_, rfl, rfl, rfl, (by first | exact fzP_vals (fun _ => rfl) rfl | exact fzP_vals (fun _ => rfl) (hx.snoc hS1 hm (by simpa [hl] using ‹decide ((k : Int) < (l.length : Nat)) = true›) (by simpa using h)) |  rfl | exact fzP_pure (ints_pure _) | exact fzP_pure (u64s_pure _) | exact fzP_pure (by assumption) | exact fzP_pure (by first | (simp [pureE, pure1, ints]; done) | (simp_all [pe_int, pe_bool, pe_str, pe_sl, pe_agg, p1_int, p1_bool, p1_str, p1_sl]; done)))⟩, ⟨_, rfl, rfl, rfl, (by first | exact fzP_vals (fun _ => rfl) rfl | exact fzP_vals (fun _ => rfl) (hx.snoc hS1 hm (by simpa [hl] using ‹decide ((k : Int) < (l.length : Nat)) = true›) (by simpa using h)) |  rfl | exact fzP_pure (ints_pure _) | exact fzP_pure (u64s_pure _) | exact fzP_pure (by assumption) | exact fzP_pure (by first | (simp [pureE, pure1, ints]; done) | (simp_all [pe_int, pe_bool, pe_str, pe_sl, pe_agg, p1_int, p1_bool, p1_str, p1_sl]; done)))⟩, trivial⟩ ?_ ?_)); repeat (first | exact only_refl | refine only_put rfl ?_ | refine only_less rfl ?_ | refine only_ov rfl ?_))
      | (refine tr_loop_v (α := Nat × Int) 4 (fun | (j, b) => [(5, some (.int .i64 b)), (6, some (.int .i64 (j : Int))), (22, none), (23, none), (24, none), (25, none), (28, none), (29, none), (30, none), (31, none), (32, none), (33, none), (34, none), (35, none), (36, none), (37, none), (38, none), (39, none), (40, none), (41, none), (42, none), (43, none), (7, none), (44, none), (45, none), (46, none), (47, none), (48, none), (49, none), (50, none), (51, none), (52, none), (53, none), (54, none), (55, none), (56, none), (57, none), (58, none), (59, none), (60, none), (26, none), (27, none)]) (fun | (j, b) => [some ⟨0, 11, [pI i]⟩, none, some ⟨G2, 1, l.map pint⟩, some ⟨k, 1, (S.take k).map pint⟩]) (fun | (j, b) => Bst l S k j b) (fun | (j, b) => l.length - j) ((0, -1)) (ks := [5, 6, 22, 23, 24, 25, 28, 29, 30, 31, 32, 33, 34, 35, 36, 37, 38, 39, 40, 41, 42, 43, 7, 44, 45, 46, 47, 48, 49, 50, 51, 52, 53, 54, 55, 56, 57, 58, 59, 60, 26, 27]) (fun _ => rfl) (fun _ => rfl) rfl (by omega) ?_ ⟨⟨_, rfl, rfl⟩, ⟨_, rfl, rfl⟩, trivial⟩ ⟨⟨_, rfl, rfl, rfl, (by first | exact fzP_vals (fun _ => rfl) rfl | exact fzP_vals (fun _ => rfl) (hx.snoc hS1 hm (by simpa [hl] using ‹decide ((k : Int) < (l.length : Nat)) = true›) (by simpa using h)) |  rfl | exact fzP_pure (ints_pure _) | exact fzP_pure (u64s_pure _) | exact fzP_pure (by assumption) | exact fzP_pure (by first | (simp [pureE, pure1, ints]; done) | (simp_all [pe_int, pe_bool, pe_str, pe_sl, pe_agg, p1_int, p1_bool, p1_str, p1_sl]; done)))⟩, ⟨_, rfl, rfl, rfl, (by first | exact fzP_vals (fun _ => rfl) rfl | exact fzP_vals (fun _ => rfl) (hx.snoc hS1 hm (by simpa [hl] using ‹decide ((k : Int) < (l.length : Nat)) = true›) (by simpa using h)) |  rfl | exact fzP_pure (ints_pure _) | exact fzP_pure (u64s_pure _) | exact fzP_pure (by assumption) | exact fzP_pure (by first | (simp [pureE, pure1, ints]; done) | (simp_all [pe_int, pe_bool, pe_str, pe_sl, pe_agg, p1_int, p1_bool, p1_str, p1_sl]; done)))⟩, ⟨_, rfl, rfl, rfl, (by first | exact fzP_vals (fun _ => rfl) rfl | exact fzP_vals (fun _ => rfl) (hx.snoc hS1 hm (by simpa [hl] using ‹decide ((k : Int) < (l.length : Nat)) = true›) (by simpa using h)) |  rfl | exact fzP_pure (ints_pure _) | exact fzP_pure (u64s_pure _) | exact fzP_pure (by assumption) | exact fzP_pure (by first | (simp [pureE, pure1, ints]; done) | (simp_all [pe_int, pe_bool, pe_str, pe_sl, pe_agg, p1_int, p1_bool, p1_str, p1_sl]; done)))⟩, trivial⟩ ?_; rotate_left; rintro ⟨j, b⟩ hx; try dsimp only at hx)
      | ((first | (refine loopV_normal ((j + 1, b)) ?_ ⟨⟨_, rfl, rfl⟩, ⟨_, rfl, rfl⟩, trivial⟩ ⟨⟨_, rfl, rfl, rfl, (by first | exact fzP_vals (fun _ => rfl) rfl | exact fzP_vals (fun _ => rfl) (hx.snoc hS1 hm (by simpa [hl] using ‹decide ((k : Int) < (l.length : Nat)) = true›) (by simpa using h)) |  rfl | exact fzP_pure (ints_pure _) | exact fzP_pure (u64s_pure _) | exact fzP_pure (by assumption) | exact fzP_pure (by first | (simp [pureE, pure1, ints]; done) | (simp_all [pe_int, pe_bool, pe_str, pe_sl, pe_agg, p1_int, p1_bool, p1_str, p1_sl]; done)))⟩, ⟨_, rfl, rfl, rfl, (by first | exact fzP_vals (fun _ => rfl) rfl | exact fzP_vals (fun _ => rfl) (hx.snoc hS1 hm (by simpa [hl] using ‹decide ((k : Int) < (l.length : Nat)) = true›) (by simpa using h)) |  rfl | exact fzP_pure (ints_pure _) | exact fzP_pure (u64s_pure _) | exact fzP_pure (by assumption) | exact fzP_pure (by first | (simp [pureE, pure1, ints]; done) | (simp_all [pe_int, pe_bool, pe_str, pe_sl, pe_agg, p1_int, p1_bool, p1_str, p1_sl]; done)))⟩, ⟨_, rfl, rfl, rfl, (by first | exact fzP_vals (fun _ => rfl) rfl | exact fzP_vals (fun _ => rfl) (hx.snoc hS1 hm (by simpa [hl] using ‹decide ((k : Int) < (l.length : Nat)) = true›) (by simpa using h)) |  rfl | exact fzP_pure (ints_pure _) | exact fzP_pure (u64s_pure _) | exact fzP_pure (by assumption) | exact fzP_pure (by first | (simp [pureE, pure1, ints]; done) | (simp_all [pe_int, pe_bool, pe_str, pe_sl, pe_agg, p1_int, p1_bool, p1_str, p1_sl]; done)))⟩, trivial⟩ ?_ ?_) | (refine loopV_normal ((j + 1, l.getD j 0)) ?_ ⟨⟨_, rfl, rfl⟩, ⟨_, rfl, rfl⟩, trivial⟩ ⟨⟨_, rfl, rfl, rfl, (by first | exact fzP_vals (fun _ => rfl) rfl | exact fzP_vals (fun _ => rfl) (hx.snoc hS1 hm (by simpa [hl] using ‹decide ((k : Int) < (l.length : Nat)) = true›) (by simpa using h)) |  rfl | exact fzP_pure (ints_pure _) | exact fzP_pure (u64s_pure _) | exact fzP_pure (by assumption) | exact fzP_pure (by first | (simp [pureE, pure1, ints]; done) | (simp_all [pe_int, pe_bool, pe_str, pe_sl, pe_agg, p1_int, p1_bool, p1_str, p1_sl]; done)))⟩, ⟨_, rfl, rfl, rfl, (by first | exact fzP_vals (fun _ => rfl) rfl | exact fzP_vals (fun _ => rfl) (hx.snoc hS1 hm (by simpa [hl] using ‹decide ((k : Int) < (l.length : Nat)) = true›) (by simpa using h)) |  rfl | exact fzP_pure (ints_pure _) | exact fzP_pure (u64s_pure _) | exact fzP_pure (by assumption) | exact fzP_pure (by first | (simp [pureE, pure1, ints]; done) | (simp_all [pe_int, pe_bool, pe_str, pe_sl, pe_agg, p1_int, p1_bool, p1_str, p1_sl]; done)))⟩, ⟨_, rfl, rfl, rfl, (by first | exact fzP_vals (fun _ => rfl) rfl | exact fzP_vals (fun _ => rfl) (hx.snoc hS1 hm (by simpa [hl] using ‹decide ((k : Int) < (l.length : Nat)) = true›) (by simpa using h)) |  rfl | exact fzP_pure (ints_pure _) | exact fzP_pure (u64s_pure _) | exact fzP_pure (by assumption) | exact fzP_pure (by first | (simp [pureE, pure1, ints]; done) | (simp_all [pe_int, pe_bool, pe_str, pe_sl, pe_agg, p1_int, p1_bool, p1_str, p1_sl]; done)))⟩, trivial⟩ ?_ ?_)); repeat (first | exact only_refl | refine only_put rfl ?_ | refine only_less rfl ?_ | refine only_ov rfl ?_))
      | ((with_reducible apply n_val); rfl; rfl)
      | ((with_reducible apply n_new); rfl; (first | (simp only [hn0, hn1, hn2, hn3, hn4, hn5, List.length_cons, List.length_nil, Nat.reduceAdd, Nat.zero_add]; done) | (simp only [hn0, hn1, hn2, hn3, hn4, hn5, List.length_cons, List.length_nil, Nat.reduceAdd, Nat.zero_add]; rfl) | rfl); rfl)
      | ((with_reducible apply n_append); rfl; rfl; rfl; rfl; rfl; rfl; (first | decide | (simp only [List.length_append, List.length_cons, List.length_nil, List.length_set, List.length_replicate, ints_length] at *; omega)); rfl)
      | ((with_reducible apply n_append_lit); rfl; rfl; rfl; rfl; rfl; (first | decide | (simp only [List.length_append, List.length_cons, List.length_nil, List.length_set, List.length_replicate, ints_length] at *; omega)); (first | (simp only [hn0, hn1, hn2, hn3, hn4, hn5, List.length_cons, List.length_nil, Nat.reduceAdd, Nat.zero_add]; done) | (simp only [hn0, hn1, hn2, hn3, hn4, hn5, List.length_cons, List.length_nil, Nat.reduceAdd, Nat.zero_add]; rfl) | rfl); rfl)
      | ((with_reducible apply n_freshL ); (first | (simp only [hn0, hn1, hn2, hn3, hn4, hn5, List.length_cons, List.length_nil, Nat.reduceAdd, Nat.zero_add]; done) | (simp only [hn0, hn1, hn2, hn3, hn4, hn5, List.length_cons, List.length_nil, Nat.reduceAdd, Nat.zero_add]; rfl) | rfl); rfl; rfl; exact hu; rfl; (repeat (first | exact ShL.nil | apply ShL.none | (apply ShL.some; (first | rfl | exact shiftPs_pure (u64s_pure _) | exact shiftPs_pure (ints_pure _) | exact shiftPs_pure (vals_pure (fun _ => rfl) _))))))
      | ((with_reducible apply n_specL ); rfl; exact hA; rfl; (repeat (first | exact trivial | refine ⟨rfl, ?_⟩)); first | exact Nat.le_refl _ | exact Nat.le_of_ble_eq_true rfl)
      | (with_reducible refine condT_split (fun h => ?_) (fun h => ?_))
      | ((with_reducible apply fnQ_told_ret); rfl)
      | ((with_reducible apply fnQ_ret_soft); rfl; rfl)
      | ((with_reducible apply fnQ_ret_row); rfl; rfl; rfl)
    all_goals (try dsimp only at *)
    · simp only [decide_eq_true_eq] at *; omega
    · exact bst_take hx hg ‹decide ((j : Int) < (l.length : Nat)) = true› (by omega) h
    · simp only [decide_eq_true_eq] at *; omega
    · exact bst_pass hx ‹decide ((j : Int) < (l.length : Nat)) = true› (by omega) h
    · simp only [decide_eq_true_eq] at *; omega
    · simp only [decide_eq_true_eq] at *; omega
    · exact Bst.start _ _ _
    · have e : S.take k = S := List.take_of_length_le (by simp only [decide_eq_false_iff_not] at h; omega)
      exact fnQ_ret_vals (f := pint) rfl rfl (fun _ => rfl) (by rw [List.length_take]; omega) (by rw [e]; rfl)
    · omega
theorem p_r5_Vars1 (i : In) (hne : usesI i = []) (e : ¬ defI i = -1) : Pure Go.Proofs.Tryd.prog gl 22 [pI i] (.sl (ints (varsI i))) := by
  have hu := f_r5_Uses0 (gl := gl) i hne
  have hd := p_r5_Def (gl := gl) i
  have hS1 := (vars_spec i).1
  have hl := vars_length i
  have hm := vars_mem i
  have hg : ∀ x ∈ allI i, 0 ≤ x := fun x => all_ge
  have hdg := def_ge i
  have ea : allI i = [defI i] := by rw [allI, if_neg e, hne]; rfl
  rw [ea] at hl hm hg
  have hge : decide (defI i ≥ 0) = true := by rw [decide_eq_true_eq]; omega
  clear hdg ea e hne
  generalize varsI i = S at *
  generalize defI i = v at *
  have hl2 : ([v] : List Int).length ≤ 5 := by simp
  have hA : HSpec Go.Proofs.Tryd.prog gl 48 [.lit [], .int .i64 v] (Hp.ofL [some ⟨0, 11, [pI i]⟩]) (fun r G => r = .ref 1 0 0 ([v] : List Int).length ∧ G = Hp.ofL [some ⟨0, 11, [pI i]⟩, some ⟨0, 1, ([v] : List Int).map pint⟩]) := h_add0 v i
  generalize ([v] : List Int) = l at *
  · refine Pure.fn hmix b22 ?_
    repeat' first
      | (refine tr_virt 4 1 2 rfl (by omega) rfl ?_)
      | with_reducible refine tr_seq ?_
      | ((with_reducible refine tr_region_f ?_ ?_); kernel_rfl)
      | ((with_reducible refine tr_region_t ?_ ?_ ?_); kernel_rfl; kernel_rfl)
      | with_reducible refine n_nil ?_
      | exact ⟨rfl, rfl⟩
      | with_reducible refine seqQ_normal ?_
      | with_reducible refine seqQ_exit ?_
      | with_reducible refine seqQ_ret ?_
      | with_reducible refine blkQ_normal ?_
      | with_reducible refine blkQ_exit ?_
      | with_reducible refine blkQ_ret ?_
      | ((with_reducible refine blkQ_exit_ne ?_ ?_); rfl)
      | with_reducible refine tr_block ?_
      | with_reducible refine tr_skip ?_
      | with_reducible refine tr_exit ?_
      | with_reducible refine tr_ret ?_
      | ((with_reducible apply tr_cond_e); rfl)
      | with_reducible refine condT_t ?_
      | with_reducible refine condT_f ?_
      | ((with_reducible refine condT_T ?_ ?_); decide +kernel)
      | ((with_reducible refine condT_F ?_ ?_); decide +kernel)
      | ((with_reducible apply n_andF); rfl; rfl; decide +kernel)
      | ((with_reducible apply n_orT); rfl; rfl; decide +kernel)
      | ((with_reducible apply n_and); rfl; rfl; intro h)
      | ((with_reducible apply n_or); rfl; rfl; intro h)
      | with_reducible refine loopV_exit ?_
      | with_reducible refine loopV_ret ?_
      | with_reducible refine unrQ_normal ?_
      | with_reducible refine unrQ_exit ?_
      | with_reducible refine unrQ_ret ?_
      | ((with_reducible apply n_call (f := 18)); rfl; rfl; exact hd)
      | ((with_reducible refine condT_T ?_ ?_); exact hge)
      | ((with_reducible apply n_idx_own); rfl; rfl; rfl; (first | omega | (have c1 := hx.1; simp only [beq_eq_false_iff_ne, beq_iff_eq, ne_eq, decide_eq_true_eq, decide_eq_false_iff_not, Bool.or_eq_false_iff, Bool.not_eq_true', Bool.not_eq_false', Bool.not_true, Bool.not_false, ints_length, List.length_map, List.length_take] at *; omega)))
      | ((with_reducible apply n_load_vals (f := pint) (0 : Int)); rfl; rfl; rfl; (first | omega | (have c1 := hx.1; simp only [beq_eq_false_iff_ne, beq_iff_eq, ne_eq, decide_eq_true_eq, decide_eq_false_iff_not, Bool.or_eq_false_iff, Bool.not_eq_true', Bool.not_eq_false', Bool.not_true, Bool.not_false, ints_length, List.length_map, List.length_take] at *; omega)))
      | ((with_reducible apply n_append_vals (f := pint)); rfl; rfl; rfl; rfl; rfl; exact (by rw [List.length_take]; omega); (first | omega | (have c1 := hx.1; simp only [beq_eq_false_iff_ne, beq_iff_eq, ne_eq, decide_eq_true_eq, decide_eq_false_iff_not, Bool.or_eq_false_iff, Bool.not_eq_true', Bool.not_eq_false', Bool.not_true, Bool.not_false, ints_length, List.length_map, List.length_take] at *; omega)))
      | (first | ((with_reducible apply n_bin); rfl; rfl; focus ((with_reducible (first | apply b_add | apply b_sub)) <;> first | omega | (have c1 := hx.1; simp only [beq_eq_false_iff_ne, beq_iff_eq, ne_eq, decide_eq_true_eq, decide_eq_false_iff_not, Bool.or_eq_false_iff, Bool.not_eq_true', Bool.not_eq_false', Bool.not_true, Bool.not_false, ints_length, List.length_map, List.length_take] at *; omega))) | ((with_reducible apply n_max); rfl; rfl) | ((with_reducible apply n_min); rfl; rfl))
      | (refine tr_loop_v (α := Nat) 3 (fun | k => [(4, some (.ref 2 k 0 k)), (17, none), (18, none), (19, none), (20, none), (21, none), (5, none), (6, none), (22, none), (23, none), (24, none), (25, none), (28, none), (29, none), (30, none), (31, none), (32, none), (33, none), (34, none), (35, none), (36, none), (37, none), (38, none), (39, none), (40, none), (41, none), (42, none), (43, none), (7, none), (44, none), (45, none), (46, none), (47, none), (48, none), (49, none), (50, none), (51, none), (52, none), (53, none), (54, none), (55, none), (56, none), (57, none), (58, none), (59, none), (60, none), (26, none), (27, none), (61, none), (62, none), (63, none), (64, none)]) (fun | k => [some ⟨0, 11, [pI i]⟩, some ⟨0, 1, l.map pint⟩, some ⟨k, 1, (S.take k).map pint⟩]) (fun | k => k ≤ S.length) (fun | k => S.length - k) (0) (ks := [4, 17, 18, 19, 20, 21, 5, 6, 22, 23, 24, 25, 28, 29, 30, 31, 32, 33, 34, 35, 36, 37, 38, 39, 40, 41, 42, 43, 7, 44, 45, 46, 47, 48, 49, 50, 51, 52, 53, 54, 55, 56, 57, 58, 59, 60, 26, 27, 61, 62, 63, 64]) (fun _ => rfl) (fun _ => rfl) rfl (by omega) ?_ ⟨⟨_, rfl, rfl⟩, trivial⟩ ⟨⟨_, rfl, rfl, rfl, (by first | exact fzP_vals (fun _ => rfl) rfl | exact fzP_vals (fun _ => rfl) (hx.snoc hS1 hm (by simpa [hl] using ‹decide ((k : Int) < (l.length : Nat)) = true›) (by simpa using h)) |  rfl | exact fzP_pure (ints_pure _) | exact fzP_pure (u64s_pure _) | exact fzP_pure (by assumption) | exact fzP_pure (by first | (simp [pureE, pure1, ints]; done) | (simp_all [pe_int, pe_bool, pe_str, pe_sl, pe_agg, p1_int, p1_bool, p1_str, p1_sl]; done)))⟩, ⟨_, rfl, rfl, rfl, (by first | exact fzP_vals (fun _ => rfl) rfl | exact fzP_vals (fun _ => rfl) (hx.snoc hS1 hm (by simpa [hl] using ‹decide ((k : Int) < (l.length : Nat)) = true›) (by simpa using h)) |  rfl | exact fzP_pure (ints_pure _) | exact fzP_pure (u64s_pure _) | exact fzP_pure (by assumption) | exact fzP_pure (by first | (simp [pureE, pure1, ints]; done) | (simp_all [pe_int, pe_bool, pe_str, pe_sl, pe_agg, p1_int, p1_bool, p1_str, p1_sl]; done)))⟩, ⟨_, rfl, rfl, rfl, (by first | exact fzP_vals (fun _ => rfl) rfl | exact fzP_vals (fun _ => rfl) (hx.snoc hS1 hm (by simpa [hl] using ‹decide ((k : Int) < (l.length : Nat)) = true›) (by simpa using h)) |  rfl | exact fzP_pure (ints_pure _) | exact fzP_pure (u64s_pure _) | exact fzP_pure (by assumption) | exact fzP_pure (by first | (simp [pureE, pure1, ints]; done) | (simp_all [pe_int, pe_bool, pe_str, pe_sl, pe_agg, p1_int, p1_bool, p1_str, p1_sl]; done)))⟩, trivial⟩ ?_; rotate_left; rintro k hx; try dsimp only at hx)
      | ((first | (refine loopV_normal (k + 1) ?_ ⟨⟨_, rfl, rfl⟩, trivial⟩ ⟨⟨_, rfl, rfl, rfl, (by first | exact fzP_vals (fun _ => rfl) rfl | exact fzP_vals (fun _ => rfl) (hx.snoc hS1 hm (by simpa [hl] using ‹decide ((k : Int) < (l.length : Nat)) = true›) (by simpa using h)) |  rfl | exact fzP_pure (ints_pure _) | exact fzP_pure (u64s_pure _) | exact fzP_pure (by assumption) | exact fzP_pure (by first | (simp [pureE, pure1, ints]; done) | (simp_all [pe_int, pe_bool, pe_str, pe_sl, pe_agg, p1_int, p1_bool, p1_str, p1_sl]; done)))⟩, ⟨_, rfl, rfl, rfl, (by first | exact fzP_vals (fun _ => rfl) rfl | exact fzP_vals (fun _ => rfl) (hx.snoc hS1 hm (by simpa [hl] using ‹decide ((k : Int) < (l.length : Nat)) = true›) (by simpa using h)) |  rfl | exact fzP_pure (ints_pure _) | exact fzP_pure (u64s_pure _) | exact fzP_pure (by assumption) | exact fzP_pure (by first | (simp [pureE, pure1, ints]; done) | (simp_all [pe_int, pe_bool, pe_str, pe_sl, pe_agg, p1_int, p1_bool, p1_str, p1_sl]; done)))⟩, ⟨_, rfl, rfl, rfl, (by first | exact fzP_vals (fun _ => rfl) rfl | exact fzP_vals (fun _ => rfl) (hx.snoc hS1 hm (by simpa [hl] using ‹decide ((k : Int) < (l.length : Nat)) = true›) (by simpa using h)) |  rfl | exact fzP_pure (ints_pure _) | exact fzP_pure (u64s_pure _) | exact fzP_pure (by assumption) | exact fzP_pure (by first | (simp [pureE, pure1, ints]; done) | (simp_all [pe_int, pe_bool, pe_str, pe_sl, pe_agg, p1_int, p1_bool, p1_str, p1_sl]; done)))⟩, trivial⟩ ?_ ?_)); repeat (first | exact only_refl | refine only_put rfl ?_ | refine only_less rfl ?_ | refine only_ov rfl ?_))
      | (refine tr_loop_v (α := Nat × Int) 3 (fun | (j, b) => [(5, some (.int .i64 b)), (6, some (.int .i64 (j : Int))), (22, none), (23, none), (24, none), (25, none), (28, none), (29, none), (30, none), (31, none), (32, none), (33, none), (34, none), (35, none), (36, none), (37, none), (38, none), (39, none), (40, none), (41, none), (42, none), (43, none), (7, none), (44, none), (45, none), (46, none), (47, none), (48, none), (49, none), (50, none), (51, none), (52, none), (53, none), (54, none), (55, none), (56, none), (57, none), (58, none), (59, none), (60, none), (26, none), (27, none)]) (fun | (j, b) => [some ⟨0, 11, [pI i]⟩, some ⟨0, 1, l.map pint⟩, some ⟨k, 1, (S.take k).map pint⟩]) (fun | (j, b) => Bst l S k j b) (fun | (j, b) => l.length - j) ((0, -1)) (ks := [5, 6, 22, 23, 24, 25, 28, 29, 30, 31, 32, 33, 34, 35, 36, 37, 38, 39, 40, 41, 42, 43, 7, 44, 45, 46, 47, 48, 49, 50, 51, 52, 53, 54, 55, 56, 57, 58, 59, 60, 26, 27]) (fun _ => rfl) (fun _ => rfl) rfl (by omega) ?_ ⟨⟨_, rfl, rfl⟩, ⟨_, rfl, rfl⟩, trivial⟩ ⟨⟨_, rfl, rfl, rfl, (by first | exact fzP_vals (fun _ => rfl) rfl | exact fzP_vals (fun _ => rfl) (hx.snoc hS1 hm (by simpa [hl] using ‹decide ((k : Int) < (l.length : Nat)) = true›) (by simpa using h)) |  rfl | exact fzP_pure (ints_pure _) | exact fzP_pure (u64s_pure _) | exact fzP_pure (by assumption) | exact fzP_pure (by first | (simp [pureE, pure1, ints]; done) | (simp_all [pe_int, pe_bool, pe_str, pe_sl, pe_agg, p1_int, p1_bool, p1_str, p1_sl]; done)))⟩, ⟨_, rfl, rfl, rfl, (by first | exact fzP_vals (fun _ => rfl) rfl | exact fzP_vals (fun _ => rfl) (hx.snoc hS1 hm (by simpa [hl] using ‹decide ((k : Int) < (l.length : Nat)) = true›) (by simpa using h)) |  rfl | exact fzP_pure (ints_pure _) | exact fzP_pure (u64s_pure _) | exact fzP_pure (by assumption) | exact fzP_pure (by first | (simp [pureE, pure1, ints]; done) | (simp_all [pe_int, pe_bool, pe_str, pe_sl, pe_agg, p1_int, p1_bool, p1_str, p1_sl]; done)))⟩, ⟨_, rfl, rfl, rfl, (by first | exact fzP_vals (fun _ => rfl) rfl | exact fzP_vals (fun _ => rfl) (hx.snoc hS1 hm (by simpa [hl] using ‹decide ((k : Int) < (l.length : Nat)) = true›) (by simpa using h)) |  rfl | exact fzP_pure (ints_pure _) | exact fzP_pure (u64s_pure _) | exact fzP_pure (by assumption) | exact fzP_pure (by first | (simp [pureE, pure1, ints]; done) | (simp_all [pe_int, pe_bool, pe_str, pe_sl, pe_agg, p1_int, p1_bool, p1_str, p1_sl]; done)))⟩, trivial⟩ ?_; rotate_left; rintro ⟨j, b⟩ hx; try dsimp only at hx)
      | ((first | (refine loopV_normal ((j + 1, b)) ?_ ⟨⟨_, rfl, rfl⟩, ⟨_, rfl, rfl⟩, trivial⟩ ⟨⟨_, rfl, rfl, rfl, (by first | exact fzP_vals (fun _ => rfl) rfl | exact fzP_vals (fun _ => rfl) (hx.snoc hS1 hm (by simpa [hl] using ‹decide ((k : Int) < (l.length : Nat)) = true›) (by simpa using h)) |  rfl | exact fzP_pure (ints_pure _) | exact fzP_pure (u64s_pure _) | exact fzP_pure (by assumption) | exact fzP_pure (by first | (simp [pureE, pure1, ints]; done) | (simp_all [pe_int, pe_bool, pe_str, pe_sl, pe_agg, p1_int, p1_bool, p1_str, p1_sl]; done)))⟩, ⟨_, rfl, rfl, rfl, (by first | exact fzP_vals (fun _ => rfl) rfl | exact fzP_vals (fun _ => rfl) (hx.snoc hS1 hm (by simpa [hl] using ‹decide ((k : Int) < (l.length : Nat)) = true›) (by simpa using h)) |  rfl | exact fzP_pure (ints_pure _) | exact fzP_pure (u64s_pure _) | exact fzP_pure (by assumption) | exact fzP_pure (by first | (simp [pureE, pure1, ints]; done) | (simp_all [pe_int, pe_bool, pe_str, pe_sl, pe_agg, p1_int, p1_bool, p1_str, p1_sl]; done)))⟩, ⟨_, rfl, rfl, rfl, (by first | exact fzP_vals (fun _ => rfl) rfl | exact fzP_vals (fun _ => rfl) (hx.snoc hS1 hm (by simpa [hl] using ‹decide ((k : Int) < (l.length : Nat)) = true›) (by simpa using h)) |  rfl | exact fzP_pure (ints_pure _) | exact fzP_pure (u64s_pure _) | exact fzP_pure (by assumption) | exact fzP_pure (by first | (simp [pureE, pure1, ints]; done) | (simp_all [pe_int, pe_bool, pe_str, pe_sl, pe_agg, p1_int, p1_bool, p1_str, p1_sl]; done)))⟩, trivial⟩ ?_ ?_) | (refine loopV_normal ((j + 1, l.getD j 0)) ?_ ⟨⟨_, rfl, rfl⟩, ⟨_, rfl, rfl⟩, trivial⟩ ⟨⟨_, rfl, rfl, rfl, (by first | exact fzP_vals (fun _ => rfl) rfl | exact fzP_vals (fun _ => rfl) (hx.snoc hS1 hm (by simpa [hl] using ‹decide ((k : Int) < (l.length : Nat)) = true›) (by simpa using h)) |  rfl | exact fzP_pure (ints_pure _) | exact fzP_pure (u64s_pure _) | exact fzP_pure (by assumption) | exact fzP_pure (by first | (simp [pureE, pure1, ints]; done) | (simp_all [pe_int, pe_bool, pe_str, pe_sl, pe_agg, p1_int, p1_bool, p1_str, p1_sl]; done)))⟩, ⟨_, rfl, rfl, rfl, (by first | exact fzP_vals (fun _ => rfl) rfl | exact fzP_vals (fun _ => rfl) (hx.snoc hS1 hm (by simpa [hl] using ‹decide ((k : Int) < (l.length : Nat)) = true›) (by simpa using h)) |  rfl | exact fzP_pure (ints_pure _) | exact fzP_pure (u64s_pure _) | exact fzP_pure (by assumption) | exact fzP_pure (by first | (simp [pureE, pure1, ints]; done) | (simp_all [pe_int, pe_bool, pe_str, pe_sl, pe_agg, p1_int, p1_bool, p1_str, p1_sl]; done)))⟩, ⟨_, rfl, rfl, rfl, (by first | exact fzP_vals (fun _ => rfl) rfl | exact fzP_vals (fun _ => rfl) (hx.snoc hS1 hm (by simpa [hl] using ‹decide ((k : Int) < (l.length : Nat)) = true›) (by simpa using h)) |  rfl | exact fzP_pure (ints_pure _) | exact fzP_pure (u64s_pure _) | exact fzP_pure (by assumption) | exact fzP_pure (by first | (simp [pureE, pure1, ints]; done) | (simp_all [pe_int, pe_bool, pe_str, pe_sl, pe_agg, p1_int, p1_bool, p1_str, p1_sl]; done)))⟩, trivial⟩ ?_ ?_)); repeat (first | exact only_refl | refine only_put rfl ?_ | refine only_less rfl ?_ | refine only_ov rfl ?_))
      | ((with_reducible apply n_val); rfl; rfl)
      | ((with_reducible apply n_new); rfl; (first | (simp only [hn0, hn1, hn2, hn3, hn4, hn5, List.length_cons, List.length_nil, Nat.reduceAdd, Nat.zero_add]; done) | (simp only [hn0, hn1, hn2, hn3, hn4, hn5, List.length_cons, List.length_nil, Nat.reduceAdd, Nat.zero_add]; rfl) | rfl); rfl)
      | ((with_reducible apply n_append); rfl; rfl; rfl; rfl; rfl; rfl; (first | decide | (simp only [List.length_append, List.length_cons, List.length_nil, List.length_set, List.length_replicate, ints_length] at *; omega)); rfl)
      | ((with_reducible apply n_append_lit); rfl; rfl; rfl; rfl; rfl; (first | decide | (simp only [List.length_append, List.length_cons, List.length_nil, List.length_set, List.length_replicate, ints_length] at *; omega)); (first | (simp only [hn0, hn1, hn2, hn3, hn4, hn5, List.length_cons, List.length_nil, Nat.reduceAdd, Nat.zero_add]; done) | (simp only [hn0, hn1, hn2, hn3, hn4, hn5, List.length_cons, List.length_nil, Nat.reduceAdd, Nat.zero_add]; rfl) | rfl); rfl)
      | ((with_reducible apply n_freshL ); (first | (simp only [hn0, hn1, hn2, hn3, hn4, hn5, List.length_cons, List.length_nil, Nat.reduceAdd, Nat.zero_add]; done) | (simp only [hn0, hn1, hn2, hn3, hn4, hn5, List.length_cons, List.length_nil, Nat.reduceAdd, Nat.zero_add]; rfl) | rfl); rfl; rfl; exact hu; rfl; (repeat (first | exact ShL.nil | apply ShL.none | (apply ShL.some; (first | rfl | exact shiftPs_pure (u64s_pure _) | exact shiftPs_pure (ints_pure _) | exact shiftPs_pure (vals_pure (fun _ => rfl) _))))))
      | ((with_reducible apply n_specL ); rfl; exact hA; rfl; (repeat (first | exact trivial | refine ⟨rfl, ?_⟩)); first | exact Nat.le_refl _ | exact Nat.le_of_ble_eq_true rfl)
      | (with_reducible refine condT_split (fun h => ?_) (fun h => ?_))
      | ((with_reducible apply fnQ_told_ret); rfl)
      | ((with_reducible apply fnQ_ret_soft); rfl; rfl)
      | ((with_reducible apply fnQ_ret_row); rfl; rfl; rfl)
    all_goals (try dsimp only at *)
    · simp only [decide_eq_true_eq] at *; omega
    · exact bst_take hx hg ‹decide ((j : Int) < (l.length : Nat)) = true› (by omega) h
    · simp only [decide_eq_true_eq] at *; omega
    · exact bst_pass hx ‹decide ((j : Int) < (l.length : Nat)) = true› (by omega) h
    · simp only [decide_eq_true_eq] at *; omega
    · simp only [decide_eq_true_eq] at *; omega
    · exact Bst.start _ _ _
    · have e : S.take k = S := List.take_of_length_le (by simp only [decide_eq_false_iff_not] at h; omega)
      exact fnQ_ret_vals (f := pint) rfl rfl (fun _ => rfl) (by rw [List.length_take]; omega) (by rw [e]; rfl)
    · omega
theorem p_r5_Vars0 (i : In) (hne : usesI i = []) (e : defI i = -1) : Pure Go.Proofs.Tryd.prog gl 22 [pI i] (.sl (ints (varsI i))) := by
  have hu := f_r5_Uses0 (gl := gl) i hne
  have hd := p_r5_Def (gl := gl) i
  have e3 : varsI i = [] := by rw [varsI, hne, if_pos e]; rfl
  rw [e] at hd
  rw [e3]
  clear e3 e hne
  refine Pure.fn hmix b22 ?_
  repeat' first
    | with_reducible refine tr_seq ?_
    | ((with_reducible refine tr_region_f ?_ ?_); kernel_rfl)
    | ((with_reducible refine tr_region_t ?_ ?_ ?_); kernel_rfl; kernel_rfl)
    | with_reducible refine n_nil ?_
    | exact ⟨rfl, rfl⟩
    | with_reducible refine seqQ_normal ?_
    | with_reducible refine seqQ_exit ?_
    | with_reducible refine seqQ_ret ?_
    | with_reducible refine blkQ_normal ?_
    | with_reducible refine blkQ_exit ?_
    | with_reducible refine blkQ_ret ?_
    | ((with_reducible refine blkQ_exit_ne ?_ ?_); rfl)
    | with_reducible refine tr_block ?_
    | with_reducible refine tr_skip ?_
    | with_reducible refine tr_exit ?_
    | with_reducible refine tr_ret ?_
    | ((with_reducible apply tr_cond_e); rfl)
    | with_reducible refine condT_t ?_
    | with_reducible refine condT_f ?_
    | ((with_reducible refine condT_T ?_ ?_); decide +kernel)
    | ((with_reducible refine condT_F ?_ ?_); decide +kernel)
    | ((with_reducible apply n_andF); rfl; rfl; decide +kernel)
    | ((with_reducible apply n_orT); rfl; rfl; decide +kernel)
    | ((with_reducible apply n_and); rfl; rfl; intro h)
    | ((with_reducible apply n_or); rfl; rfl; intro h)
    | with_reducible refine loopV_exit ?_
    | with_reducible refine loopV_ret ?_
    | with_reducible refine unrQ_normal ?_
    | with_reducible refine unrQ_exit ?_
    | with_reducible refine unrQ_ret ?_
    | refine tr_unroll 1 ?_
    | ((with_reducible apply n_call (f := 18)); rfl; rfl; exact hd)
    | ((with_reducible apply n_val); rfl; rfl)
    | ((with_reducible apply n_new); rfl; (first | (simp only [hn0, hn1, hn2, hn3, hn4, hn5, List.length_cons, List.length_nil, Nat.reduceAdd, Nat.zero_add]; done) | (simp only [hn0, hn1, hn2, hn3, hn4, hn5, List.length_cons, List.length_nil, Nat.reduceAdd, Nat.zero_add]; rfl) | rfl); rfl)
    | ((with_reducible apply n_append); rfl; rfl; rfl; rfl; rfl; rfl; (first | decide | (simp only [List.length_append, List.length_cons, List.length_nil, List.length_set, List.length_replicate, ints_length] at *; omega)); rfl)
    | ((with_reducible apply n_append_lit); rfl; rfl; rfl; rfl; rfl; (first | decide | (simp only [List.length_append, List.length_cons, List.length_nil, List.length_set, List.length_replicate, ints_length] at *; omega)); (first | (simp only [hn0, hn1, hn2, hn3, hn4, hn5, List.length_cons, List.length_nil, Nat.reduceAdd, Nat.zero_add]; done) | (simp only [hn0, hn1, hn2, hn3, hn4, hn5, List.length_cons, List.length_nil, Nat.reduceAdd, Nat.zero_add]; rfl) | rfl); rfl)
    | ((with_reducible apply n_freshL ); (first | (simp only [hn0, hn1, hn2, hn3, hn4, hn5, List.length_cons, List.length_nil, Nat.reduceAdd, Nat.zero_add]; done) | (simp only [hn0, hn1, hn2, hn3, hn4, hn5, List.length_cons, List.length_nil, Nat.reduceAdd, Nat.zero_add]; rfl) | rfl); rfl; rfl; exact hu; rfl; (repeat (first | exact ShL.nil | apply ShL.none | (apply ShL.some; (first | rfl | exact shiftPs_pure (u64s_pure _) | exact shiftPs_pure (ints_pure _) | exact shiftPs_pure (vals_pure (fun _ => rfl) _))))))
    | (with_reducible refine condT_split (fun h => ?_) (fun h => ?_))
    | ((with_reducible apply fnQ_told_ret); rfl)
    | ((with_reducible apply fnQ_ret_soft); rfl; rfl)
    | ((with_reducible apply fnQ_ret_row); rfl; rfl; rfl)
  rfl
end

end Go.Vm

end
