/- Laid. -/
import Derived.Test.YtlllcmahmgdppaaDoorVmThree
import Derived.KernelRfl
import Derived.Test.YtlllcmahmgdppaaDoorProg
import Derived.Test.YtlllcmahmgdppaaDoorXprogF
import Derived.Test.YtlllcmahmgdppaaDoorLAll
section
/- Code. -/
set_option maxRecDepth 100000
set_option linter.unusedSimpArgs false
set_option linter.unusedVariables false
namespace Go.Vm
open Go
def c3 : RFn := ⟨(.seq (.region (Nodes.flat none (.op (some 2) (.box (.t 0)) 0
  (.op (some 4) (.move (.c (.bool false))) 0
  .nil))) false)
 (.seq (.region (Nodes.flat none (.op (some 17) (.call 6 []) 0
  (.op (some 5) (.move (.t 17)) 0
  .nil))) false)
 (.seq (.seq (.region (Nodes.flat none (.op (some 18) (.load (some 1) (.t 2)) 0
  (.op (some 19) (.call 7 [(.t 18)]) 0
  (.op (some 20) (.un .not (.t 19)) 0
  (.op (some 21) (.move (.t 20)) 0
  (.grd 21 false
  (.op (some 22) (.load (some 1) (.t 2)) 0
  (.op (some 23) (.call 8 [(.t 22)]) 0
  (.op (some 24) (.un .not (.t 23)) 0
  .nil)))
  (.op (some 25) (.pick (.t 21) (.c (.bool true)) (.t 24)) 0
  .nil))))))) false)
 (.cond (.t 25)
 (.seq (.region (Nodes.flat none (.op (some 26) (.move (.t 5)) 0
  (.op (some 4) (.move (.t 26)) 0
  .nil))) false)
 .ret)
 .skip))
 (.seq (.region (Nodes.flat none (.op (some 27) (.load (some 1) (.t 2)) 0
  (.op (some 28) (.call 9 [(.t 27)]) 0
  (.op (some 6) (.move (.t 28)) 0
  .nil)))) false)
 (.seq (.region (Nodes.flat none (.op (some 29) (.load (some 1) (.t 2)) 0
  (.op (some 30) (.call 10 [(.t 29)]) 0
  (.op (some 7) (.move (.t 30)) 0
  .nil)))) false)
 (.seq (.region (Nodes.flat none (.op (some 31) (.mkslice 1 (.bool false) (.c (.int .i64 96))) 0
  (.op (some 8) (.move (.t 31)) 0
  .nil))) false)
 (.seq (.seq (.region (Nodes.flat none (.op (some 9) (.move (.c (.int .i64 0))) 0
  .nil)) false)
 (.block 0 (.loop (.seq (.seq (.region (Nodes.flat none (.op (some 32) (.move (.t 9)) 0
  (.op (some 33) (.move (.t 7)) 0
  (.op (some 34) (.len false (.t 33)) 0
  (.op (some 35) (.bin .lss (.t 32) (.t 34)) 0
  .nil))))) false)
 (.cond (.t 35)
 .skip
 (.exit 0)))
 (.seq (.block 1 (.region (Nodes.flat none (.op (some 38) (.move (.t 8)) 0
  (.op (some 39) (.move (.t 7)) 0
  (.op (some 40) (.move (.t 9)) 0
  (.op (some 41) (.idxAddr 11 (.t 39) (.t 40)) 0
  (.op (some 42) (.fieldAddr 0 (.t 41)) 0
  (.op (some 43) (.load none (.t 42)) 0
  (.op (some 44) (.idxAddr 1 (.t 38) (.t 43)) 0
  (.op none (.store 1 (.t 44) (.c (.bool true))) 0
  .nil))))))))) false))
 (.region (Nodes.flat none (.op (some 36) (.move (.t 9)) 0
  (.op (some 37) (.bin .add (.t 36) (.c (.int .i64 1))) 0
  (.op (some 9) (.move (.t 37)) 0
  .nil)))) false))))))
 (.seq (.seq (.region (Nodes.flat none (.op (some 10) (.move (.c (.int .i64 0))) 0
  .nil)) false)
 (.block 2 (.loop (.seq (.seq (.region (Nodes.flat none (.op (some 45) (.move (.t 10)) 0
  (.op (some 46) (.bin .lss (.t 45) (.c (.int .i64 96))) 0
  .nil))) false)
 (.cond (.t 46)
 .skip
 (.exit 2)))
 (.seq (.block 3 (.seq (.region (Nodes.flat none (.op (some 49) (.move (.t 6)) 0
  (.op (some 50) (.bin .lss (.t 49) (.c (.int .i64 0))) 0
  (.op (some 51) (.move (.t 50)) 0
  (.grd 51 false
  (.op (some 52) (.move (.t 10)) 0
  (.op (some 53) (.move (.t 6)) 0
  (.op (some 54) (.bin .lss (.t 52) (.t 53)) 0
  .nil)))
  (.op (some 55) (.pick (.t 51) (.c (.bool true)) (.t 54)) 0
  (.op (some 56) (.move (.t 55)) 0
  (.grd 56 true
  (.op (some 57) (.move (.t 8)) 0
  (.op (some 58) (.move (.t 10)) 0
  (.op (some 59) (.idxAddr 1 (.t 57) (.t 58)) 0
  (.op (some 60) (.load none (.t 59)) 0
  (.op (some 61) (.un .not (.t 60)) 0
  .nil)))))
  (.op (some 62) (.pick (.t 56) (.t 61) (.c (.bool false))) 0
  (.op (some 63) (.move (.t 62)) 0
  (.grd 63 false
  (.op (some 64) (.move (.t 10)) 0
  (.op (some 65) (.move (.t 6)) 0
  (.op (some 66) (.bin .eql (.t 64) (.t 65)) 0
  (.op (some 67) (.move (.t 66)) 0
  (.grd 67 true
  (.op (some 68) (.move (.t 8)) 0
  (.op (some 69) (.move (.t 10)) 0
  (.op (some 70) (.idxAddr 1 (.t 68) (.t 69)) 0
  (.op (some 71) (.load none (.t 70)) 0
  .nil))))
  (.op (some 72) (.pick (.t 67) (.t 71) (.c (.bool false))) 0
  .nil))))))
  (.op (some 73) (.pick (.t 63) (.c (.bool true)) (.t 72)) 0
  .nil)))))))))))) false)
 (.cond (.t 73)
 (.seq (.region (Nodes.flat none (.op (some 4) (.move (.c (.bool false))) 0
  .nil)) false)
 .ret)
 .skip)))
 (.region (Nodes.flat none (.op (some 47) (.move (.t 10)) 0
  (.op (some 48) (.bin .add (.t 47) (.c (.int .i64 1))) 0
  (.op (some 10) (.move (.t 48)) 0
  .nil)))) false))))))
 (.seq (.region (Nodes.flat none (.op (some 74) (.load (some 1) (.t 2)) 0
  (.op (some 75) (.move (.t 1)) 0
  (.op (some 76) (.call 11 [(.t 74), (.t 75)]) 0
  (.op (some 11) (.move (.t 76)) 0
  .nil))))) false)
 (.seq (.region (Nodes.flat none (.op (some 78) (.load (some 1) (.t 2)) 0
  (.op (some 79) (.move (.t 1)) 0
  (.op (some 80) (.call 12 [(.t 78), (.t 79)]) 0
  (.op (some 77) (.move (.t 80)) 0
  (.op (some 81) (.extract 0 (.t 77)) 0
  (.op (some 82) (.extract 1 (.t 77)) 0
  (.op (some 12) (.alloc (.agg [(.int .i64 0), (.int .i64 0), (.lit [])])) 0
  (.op none (.store 3 (.t 12) (.t 81)) 0
  (.op (some 13) (.move (.t 82)) 0
  .nil)))))))))) false)
 (.seq (.seq (.region (Nodes.flat none (.op (some 83) (.move (.t 13)) 0
  (.op (some 84) (.un .not (.t 83)) 0
  .nil))) false)
 (.cond (.t 84)
 (.seq (.region (Nodes.flat none (.op (some 85) (.move (.t 5)) 0
  (.op (some 86) (.move (.t 85)) 0
  (.grd 86 true
  (.op (some 87) (.move (.t 11)) 0
  (.op (some 88) (.bin .eql (.t 87) (.c (.int .i64 (-1)))) 0
  .nil))
  (.op (some 89) (.pick (.t 86) (.t 88) (.c (.bool false))) 0
  (.op (some 4) (.move (.t 89)) 0
  .nil)))))) false)
 .ret)
 .skip))
 (.seq (.seq (.region (Nodes.flat none (.op (some 14) (.move (.c (.int .i64 0))) 0
  .nil)) false)
 (.block 4 (.loop (.seq (.seq (.region (Nodes.flat none (.op (some 90) (.move (.t 14)) 0
  (.op (some 91) (.bin .lss (.t 90) (.c (.int .i64 12))) 0
  .nil))) false)
 (.cond (.t 91)
 .skip
 (.exit 4)))
 (.seq (.block 5 (.seq (.region (Nodes.flat none (.op (some 95) (.load (some 1) (.t 2)) 0
  (.op (some 96) (.move (.t 1)) 0
  (.op (some 97) (.move (.t 14)) 0
  (.op (some 98) (.call 13 [(.t 95), (.t 96), (.t 97)]) 0
  (.op (some 94) (.move (.t 98)) 0
  (.op (some 99) (.extract 0 (.t 94)) 0
  (.op (some 100) (.extract 1 (.t 94)) 0
  (.op (some 15) (.alloc (.agg [(.bool false), (.lit []), (.lit [])])) 0
  (.op none (.store 3 (.t 15) (.t 99)) 0
  (.op (some 16) (.move (.t 100)) 0
  .nil))))))))))) false)
 (.seq (.region (Nodes.flat none (.op (some 101) (.move (.t 11)) 0
  (.op (some 102) (.bin .lss (.t 101) (.c (.int .i64 0))) 0
  (.op (some 103) (.move (.t 102)) 0
  (.grd 103 false
  (.op (some 104) (.move (.t 14)) 0
  (.op (some 105) (.move (.t 11)) 0
  (.op (some 106) (.bin .lss (.t 104) (.t 105)) 0
  .nil)))
  (.op (some 107) (.pick (.t 103) (.c (.bool true)) (.t 106)) 0
  (.op (some 108) (.move (.t 107)) 0
  (.grd 108 true
  (.op (some 109) (.move (.t 16)) 0
  (.op (some 110) (.un .not (.t 109)) 0
  .nil))
  (.op (some 111) (.pick (.t 108) (.t 110) (.c (.bool false))) 0
  (.op (some 112) (.move (.t 111)) 0
  (.grd 112 false
  (.op (some 113) (.move (.t 14)) 0
  (.op (some 114) (.move (.t 11)) 0
  (.op (some 115) (.bin .eql (.t 113) (.t 114)) 0
  (.op (some 116) (.move (.t 115)) 0
  (.grd 116 true
  (.op (some 117) (.move (.t 16)) 0
  .nil)
  (.op (some 118) (.pick (.t 116) (.t 117) (.c (.bool false))) 0
  .nil))))))
  (.op (some 119) (.pick (.t 112) (.c (.bool true)) (.t 118)) 0
  .nil)))))))))))) false)
 (.cond (.t 119)
 (.seq (.region (Nodes.flat none (.op (some 4) (.move (.c (.bool false))) 0
  .nil)) false)
 .ret)
 .skip))))
 (.region (Nodes.flat none (.op (some 92) (.move (.t 14)) 0
  (.op (some 93) (.bin .add (.t 92) (.c (.int .i64 1))) 0
  (.op (some 14) (.move (.t 93)) 0
  .nil)))) false))))))
 (.seq (.region (Nodes.flat none (.op (some 120) (.move (.t 5)) 0
  (.op (some 121) (.move (.t 120)) 0
  (.grd 121 true
  (.op (some 122) (.fieldAddr 2 (.t 12)) 0
  (.op (some 123) (.load none (.t 122)) 0
  (.op (some 124) (.len false (.t 123)) 0
  (.op (some 125) (.bin .leq (.t 124) (.c (.int .i64 12))) 0
  .nil))))
  (.op (some 126) (.pick (.t 121) (.t 125) (.c (.bool false))) 0
  (.op (some 127) (.move (.t 126)) 0
  (.grd 127 true
  (.op (some 128) (.move (.t 11)) 0
  (.op (some 129) (.bin .lss (.t 128) (.c (.int .i64 12))) 0
  .nil))
  (.op (some 130) (.pick (.t 127) (.t 129) (.c (.bool false))) 0
  (.op (some 131) (.move (.t 130)) 0
  (.grd 131 true
  (.op (some 132) (.move (.t 6)) 0
  (.op (some 133) (.bin .lss (.t 132) (.c (.int .i64 96))) 0
  .nil))
  (.op (some 134) (.pick (.t 131) (.t 133) (.c (.bool false))) 0
  (.op (some 4) (.move (.t 134)) 0
  .nil)))))))))))) false)
 .ret))))))))))))),
 [.tmp 4]⟩
theorem b3 : fnOf Go.Proofs.Tryd.prog (owOf []) 3 = some c3 := by kernel_rfl
def c10 : RFn := ⟨(.seq (.region (Nodes.flat none (.op (some 1) (.box (.t 0)) 0
  (.op (some 2) (.move (.c (.lit []))) 0
  .nil))) false)
 (.seq (.region (Nodes.flat none (.op (some 3) (.move (.c (.lit []))) 0
  .nil)) false)
 (.seq (.seq (.region (Nodes.flat none (.op (some 4) (.move (.c (.int .i64 0))) 0
  .nil)) false)
 (.block 0 (.loop (.seq (.seq (.region (Nodes.flat none (.op (some 6) (.move (.t 4)) 0
  (.op (some 7) (.fieldAddr 0 (.t 1)) 0
  (.op (some 8) (.load none (.t 7)) 0
  (.op (some 9) (.len false (.t 8)) 0
  (.op (some 10) (.bin .lss (.t 6) (.t 9)) 0
  .nil)))))) false)
 (.cond (.t 10)
 .skip
 (.exit 0)))
 (.seq (.block 1 (.seq (.region (Nodes.flat none (.op (some 5) (.move (.c (.int .i64 0))) 0
  .nil)) false)
 (.block 2 (.loop (.seq (.seq (.region (Nodes.flat none (.op (some 13) (.move (.t 5)) 0
  (.op (some 14) (.fieldAddr 0 (.t 1)) 0
  (.op (some 15) (.load none (.t 14)) 0
  (.op (some 16) (.move (.t 4)) 0
  (.op (some 17) (.idxAddr 3 (.t 15) (.t 16)) 0
  (.op (some 18) (.fieldAddr 2 (.t 17)) 0
  (.op (some 19) (.load none (.t 18)) 0
  (.op (some 20) (.len false (.t 19)) 0
  (.op (some 21) (.bin .lss (.t 13) (.t 20)) 0
  .nil)))))))))) false)
 (.cond (.t 21)
 .skip
 (.exit 2)))
 (.seq (.block 3 (.region (Nodes.flat none (.op (some 24) (.move (.t 3)) 0
  (.op (some 25) (.fieldAddr 0 (.t 1)) 0
  (.op (some 26) (.load none (.t 25)) 0
  (.op (some 27) (.move (.t 4)) 0
  (.op (some 28) (.idxAddr 3 (.t 26) (.t 27)) 0
  (.op (some 29) (.fieldAddr 2 (.t 28)) 0
  (.op (some 30) (.load none (.t 29)) 0
  (.op (some 31) (.move (.t 5)) 0
  (.op (some 32) (.idxAddr 3 (.t 30) (.t 31)) 0
  (.op (some 33) (.fieldAddr 1 (.t 32)) 0
  (.op (some 34) (.load none (.t 33)) 0
  (.op (some 35) (.append 11 (.agg [(.int .i64 0), (.int .i64 0), (.int .i64 0), (.int .i64 0), (.int .i64 0), (.int .i64 0), (.int .i64 0), (.int .i64 0), (.int .i64 0), (.int .i64 0), (.int .i64 0)]) (.t 24) (.t 34)) 0
  (.op (some 3) (.move (.t 35)) 0
  .nil)))))))))))))) false))
 (.region (Nodes.flat none (.op (some 22) (.move (.t 5)) 0
  (.op (some 23) (.bin .add (.t 22) (.c (.int .i64 1))) 0
  (.op (some 5) (.move (.t 23)) 0
  .nil)))) false)))))))
 (.region (Nodes.flat none (.op (some 11) (.move (.t 4)) 0
  (.op (some 12) (.bin .add (.t 11) (.c (.int .i64 1))) 0
  (.op (some 4) (.move (.t 12)) 0
  .nil)))) false))))))
 (.seq (.region (Nodes.flat none (.op (some 36) (.move (.t 3)) 0
  (.op (some 2) (.move (.t 36)) 0
  .nil))) false)
 .ret)))),
 [.tmp 2]⟩
theorem b10 : fnOf Go.Proofs.Tryd.prog (owOf []) 10 = some c10 := by kernel_rfl
end Go.Vm
end
section
/- Walks. -/
set_option maxRecDepth 100000
set_option linter.unusedSimpArgs false
set_option linter.unusedVariables false
namespace Go.Vm
open Go
set_option maxHeartbeats 4000000
theorem p_Instrs {gl : Nat → Option PV} (p : List Fn) (hf : few p = true) : Pure Go.Proofs.Tryd.prog gl 10 [pP p] (.sl ((insP p).map pI)) := by
  have h1 := (few_bs hf).1
  have h2 : ∀ k, k < p.length → (p.getD k F0).bs.length ≤ 20 := fun k hk => ((few_bs hf).2 _ (getD_mem F0 hk)).1
  have h3 : ∀ k, k < p.length → ∀ j, (alT2 p k j).length ≤ 7000 := fun k hk j => alT2_le hf hk j
  have h4 : ∀ k, k < p.length → ∀ j, j < (p.getD k F0).bs.length → ((p.getD k F0).bs.getD j B0).code.length ≤ 30 := fun k hk j hj => (((few_bs hf).2 _ (getD_mem F0 hk)).2 _ (getD_mem B0 hj)).1
  refine Pure.fn hmix b10 ?_
  repeat' first
    | with_reducible refine tr_seq ?_
    | ((with_reducible refine tr_region_f ?_ ?_); kernel_rfl)
    | with_reducible refine n_nil ?_
    | with_reducible refine seqQ_normal ?_
    | with_reducible refine seqQ_exit ?_
    | with_reducible refine seqQ_ret ?_
    | with_reducible refine blkQ_normal ?_
    | with_reducible refine blkQ_exit ?_
    | with_reducible refine blkQ_ret ?_
    | ((with_reducible refine blkQ_exit_ne ?_ ?_); rfl)
    | with_reducible refine tr_block ?_
    | with_reducible refine tr_skip ?_
    | with_reducible refine tr_exit ?_
    | with_reducible refine tr_ret ?_
    | ((with_reducible apply tr_cond_e); rfl)
    | with_reducible refine condT_t ?_
    | with_reducible refine condT_f ?_
    | with_reducible refine loopV_exit ?_
    | with_reducible refine loopV_ret ?_
    | ((with_reducible apply n_idx_vals F0); rfl; rfl; exact (fun _ => rfl); (first | omega | decide | (simp only [decide_eq_true_eq, decide_eq_false_iff_not, Bool.or_eq_false_iff, Bool.and_eq_true, Bool.not_eq_true', Bool.not_eq_false', Bool.not_true, Bool.not_false, ints_length, List.length_map, Int.toNat_natCast] at *; omega)))
    | ((with_reducible apply n_idx_vals B0); rfl; rfl; exact (fun _ => rfl); (first | omega | decide | (simp only [decide_eq_true_eq, decide_eq_false_iff_not, Bool.or_eq_false_iff, Bool.and_eq_true, Bool.not_eq_true', Bool.not_eq_false', Bool.not_true, Bool.not_false, ints_length, List.length_map, Int.toNat_natCast] at *; omega)))
    | ((with_reducible apply n_append_row (f := pI)); rfl; rfl; rfl; rfl; exact (fun _ => rfl); exact hx.2.1; (have q1 := h3 k (by first | omega | decide | (simp only [decide_eq_true_eq, decide_eq_false_iff_not, Bool.or_eq_false_iff, Bool.and_eq_true, Bool.not_eq_true', Bool.not_eq_false', Bool.not_true, Bool.not_false, ints_length, List.length_map, Int.toNat_natCast] at *; omega)) j; have q2 := h4 k (by first | omega | decide | (simp only [decide_eq_true_eq, decide_eq_false_iff_not, Bool.or_eq_false_iff, Bool.and_eq_true, Bool.not_eq_true', Bool.not_eq_false', Bool.not_true, Bool.not_false, ints_length, List.length_map, Int.toNat_natCast] at *; omega)) j (by first | omega | decide | (simp only [decide_eq_true_eq, decide_eq_false_iff_not, Bool.or_eq_false_iff, Bool.and_eq_true, Bool.not_eq_true', Bool.not_eq_false', Bool.not_true, Bool.not_false, ints_length, List.length_map, Int.toNat_natCast] at *; omega)); have q3 := hx.2.1; simp only [Int.toNat_natCast]; omega); rfl)
    | (first | ((with_reducible apply n_bin); rfl; rfl; focus ((with_reducible (first | apply b_add | apply b_sub)) <;> first | omega | decide | (simp only [decide_eq_true_eq, decide_eq_false_iff_not, Bool.or_eq_false_iff, Bool.and_eq_true, Bool.not_eq_true', Bool.not_eq_false', Bool.not_true, Bool.not_false, ints_length, List.length_map, Int.toNat_natCast] at *; omega))) | ((with_reducible apply n_max); rfl; rfl) | ((with_reducible apply n_min); rfl; rfl))
    | (refine tr_virt 3 11 1 rfl (by omega) rfl ?_; refine tr_loop_v (α := Nat × Nat × Nat) 2 (fun | (k, g, n) => [(3, some (.ref 1 g 0 n)), (4, some (.int .i64 (k : Int))), (6, none), (7, none), (8, none), (9, none), (10, none), (5, none), (13, none), (14, none), (15, none), (16, none), (17, none), (18, none), (19, none), (20, none), (21, none), (24, none), (25, none), (26, none), (27, none), (28, none), (29, none), (30, none), (31, none), (32, none), (33, none), (34, none), (35, none), (22, none), (23, none), (11, none), (12, none)]) (fun | (k, g, n) => [some ⟨0, 1, [pP p]⟩, some ⟨g, 11, (alT1 p k).map pI⟩]) (fun | (k, g, n) => k ≤ p.length ∧ n = (alT1 p k).length) (fun | (k, g, n) => p.length - k) ((0, 0, 0)) (ks := [3, 4, 6, 7, 8, 9, 10, 5, 13, 14, 15, 16, 17, 18, 19, 20, 21, 24, 25, 26, 27, 28, 29, 30, 31, 32, 33, 34, 35, 22, 23, 11, 12]) (fun _ => rfl) (fun _ => rfl) rfl (by omega) ?_ ⟨⟨_, rfl, rfl⟩, ⟨_, rfl, rfl⟩, trivial⟩ ⟨⟨_, rfl, rfl, rfl, (by first | exact fzP_vals (fun _ => rfl) rfl | exact fzP_vals (fun _ => rfl) (alT2_z p k).symm | exact fzP_vals (fun _ => rfl) (alT2_s (by first | omega | decide | (simp only [decide_eq_true_eq, decide_eq_false_iff_not, Bool.or_eq_false_iff, Bool.and_eq_true, Bool.not_eq_true', Bool.not_eq_false', Bool.not_true, Bool.not_false, ints_length, List.length_map, Int.toNat_natCast] at *; omega))).symm | exact fzP_vals (fun _ => rfl) (alT_1 (by first | omega | decide | (simp only [decide_eq_true_eq, decide_eq_false_iff_not, Bool.or_eq_false_iff, Bool.and_eq_true, Bool.not_eq_true', Bool.not_eq_false', Bool.not_true, Bool.not_false, ints_length, List.length_map, Int.toNat_natCast] at *; omega)) (by first | omega | decide | (simp only [decide_eq_true_eq, decide_eq_false_iff_not, Bool.or_eq_false_iff, Bool.and_eq_true, Bool.not_eq_true', Bool.not_eq_false', Bool.not_true, Bool.not_false, ints_length, List.length_map, Int.toNat_natCast] at *; omega)) (by first | omega | decide | (simp only [decide_eq_true_eq, decide_eq_false_iff_not, Bool.or_eq_false_iff, Bool.and_eq_true, Bool.not_eq_true', Bool.not_eq_false', Bool.not_true, Bool.not_false, ints_length, List.length_map, Int.toNat_natCast] at *; omega))) |  rfl | exact fzP_pure (ints_pure _) | exact fzP_pure (u64s_pure _) | exact fzP_pure (by assumption) | exact fzP_pure (by first | (simp [pureE, pure1, ints]; done) | (simp_all [pe_int, pe_bool, pe_str, pe_sl, pe_agg, p1_int, p1_bool, p1_str, p1_sl]; done)))⟩, ⟨_, rfl, rfl, rfl, (by first | exact fzP_vals (fun _ => rfl) rfl | exact fzP_vals (fun _ => rfl) (alT2_z p k).symm | exact fzP_vals (fun _ => rfl) (alT2_s (by first | omega | decide | (simp only [decide_eq_true_eq, decide_eq_false_iff_not, Bool.or_eq_false_iff, Bool.and_eq_true, Bool.not_eq_true', Bool.not_eq_false', Bool.not_true, Bool.not_false, ints_length, List.length_map, Int.toNat_natCast] at *; omega))).symm | exact fzP_vals (fun _ => rfl) (alT_1 (by first | omega | decide | (simp only [decide_eq_true_eq, decide_eq_false_iff_not, Bool.or_eq_false_iff, Bool.and_eq_true, Bool.not_eq_true', Bool.not_eq_false', Bool.not_true, Bool.not_false, ints_length, List.length_map, Int.toNat_natCast] at *; omega)) (by first | omega | decide | (simp only [decide_eq_true_eq, decide_eq_false_iff_not, Bool.or_eq_false_iff, Bool.and_eq_true, Bool.not_eq_true', Bool.not_eq_false', Bool.not_true, Bool.not_false, ints_length, List.length_map, Int.toNat_natCast] at *; omega)) (by first | omega | decide | (simp only [decide_eq_true_eq, decide_eq_false_iff_not, Bool.or_eq_false_iff, Bool.and_eq_true, Bool.not_eq_true', Bool.not_eq_false', Bool.not_true, Bool.not_false, ints_length, List.length_map, Int.toNat_natCast] at *; omega))) |  rfl | exact fzP_pure (ints_pure _) | exact fzP_pure (u64s_pure _) | exact fzP_pure (by assumption) | exact fzP_pure (by first | (simp [pureE, pure1, ints]; done) | (simp_all [pe_int, pe_bool, pe_str, pe_sl, pe_agg, p1_int, p1_bool, p1_str, p1_sl]; done)))⟩, trivial⟩ ?_; rotate_left; rintro ⟨k, g, n⟩ hx; try dsimp only at hx)
    | ((first | (refine loopV_normal ((k + 1, g2, m)) ?_ ⟨⟨_, rfl, rfl⟩, ⟨_, rfl, rfl⟩, trivial⟩ ⟨⟨_, rfl, rfl, rfl, (by first | exact fzP_vals (fun _ => rfl) rfl | exact fzP_vals (fun _ => rfl) (alT2_z p k).symm | exact fzP_vals (fun _ => rfl) (alT2_s (by first | omega | decide | (simp only [decide_eq_true_eq, decide_eq_false_iff_not, Bool.or_eq_false_iff, Bool.and_eq_true, Bool.not_eq_true', Bool.not_eq_false', Bool.not_true, Bool.not_false, ints_length, List.length_map, Int.toNat_natCast] at *; omega))).symm | exact fzP_vals (fun _ => rfl) (alT_1 (by first | omega | decide | (simp only [decide_eq_true_eq, decide_eq_false_iff_not, Bool.or_eq_false_iff, Bool.and_eq_true, Bool.not_eq_true', Bool.not_eq_false', Bool.not_true, Bool.not_false, ints_length, List.length_map, Int.toNat_natCast] at *; omega)) (by first | omega | decide | (simp only [decide_eq_true_eq, decide_eq_false_iff_not, Bool.or_eq_false_iff, Bool.and_eq_true, Bool.not_eq_true', Bool.not_eq_false', Bool.not_true, Bool.not_false, ints_length, List.length_map, Int.toNat_natCast] at *; omega)) (by first | omega | decide | (simp only [decide_eq_true_eq, decide_eq_false_iff_not, Bool.or_eq_false_iff, Bool.and_eq_true, Bool.not_eq_true', Bool.not_eq_false', Bool.not_true, Bool.not_false, ints_length, List.length_map, Int.toNat_natCast] at *; omega))) |  rfl | exact fzP_pure (ints_pure _) | exact fzP_pure (u64s_pure _) | exact fzP_pure (by assumption) | exact fzP_pure (by first | (simp [pureE, pure1, ints]; done) | (simp_all [pe_int, pe_bool, pe_str, pe_sl, pe_agg, p1_int, p1_bool, p1_str, p1_sl]; done)))⟩, ⟨_, rfl, rfl, rfl, (by first | exact fzP_vals (fun _ => rfl) rfl | exact fzP_vals (fun _ => rfl) (alT2_z p k).symm | exact fzP_vals (fun _ => rfl) (alT2_s (by first | omega | decide | (simp only [decide_eq_true_eq, decide_eq_false_iff_not, Bool.or_eq_false_iff, Bool.and_eq_true, Bool.not_eq_true', Bool.not_eq_false', Bool.not_true, Bool.not_false, ints_length, List.length_map, Int.toNat_natCast] at *; omega))).symm | exact fzP_vals (fun _ => rfl) (alT_1 (by first | omega | decide | (simp only [decide_eq_true_eq, decide_eq_false_iff_not, Bool.or_eq_false_iff, Bool.and_eq_true, Bool.not_eq_true', Bool.not_eq_false', Bool.not_true, Bool.not_false, ints_length, List.length_map, Int.toNat_natCast] at *; omega)) (by first | omega | decide | (simp only [decide_eq_true_eq, decide_eq_false_iff_not, Bool.or_eq_false_iff, Bool.and_eq_true, Bool.not_eq_true', Bool.not_eq_false', Bool.not_true, Bool.not_false, ints_length, List.length_map, Int.toNat_natCast] at *; omega)) (by first | omega | decide | (simp only [decide_eq_true_eq, decide_eq_false_iff_not, Bool.or_eq_false_iff, Bool.and_eq_true, Bool.not_eq_true', Bool.not_eq_false', Bool.not_true, Bool.not_false, ints_length, List.length_map, Int.toNat_natCast] at *; omega))) |  rfl | exact fzP_pure (ints_pure _) | exact fzP_pure (u64s_pure _) | exact fzP_pure (by assumption) | exact fzP_pure (by first | (simp [pureE, pure1, ints]; done) | (simp_all [pe_int, pe_bool, pe_str, pe_sl, pe_agg, p1_int, p1_bool, p1_str, p1_sl]; done)))⟩, trivial⟩ ?_ ?_)); repeat (first | exact only_refl | refine only_put rfl ?_ | refine only_less rfl ?_ | refine only_ov rfl ?_))
    | (refine tr_loop_v (α := Nat × Nat × Nat) 2 (fun | (j, g2, m) => [(3, some (.ref 1 g2 0 m)), (5, some (.int .i64 (j : Int))), (13, none), (14, none), (15, none), (16, none), (17, none), (18, none), (19, none), (20, none), (21, none), (24, none), (25, none), (26, none), (27, none), (28, none), (29, none), (30, none), (31, none), (32, none), (33, none), (34, none), (35, none), (22, none), (23, none)]) (fun | (j, g2, m) => [some ⟨0, 1, [pP p]⟩, some ⟨g2, 11, (alT2 p k j).map pI⟩]) (fun | (j, g2, m) => j ≤ (p.getD k F0).bs.length ∧ m = (alT2 p k j).length ∧ (p.getD k F0).bs.length ≤ 20) (fun | (j, g2, m) => (p.getD k F0).bs.length - j) ((0, g, n)) (ks := [3, 5, 13, 14, 15, 16, 17, 18, 19, 20, 21, 24, 25, 26, 27, 28, 29, 30, 31, 32, 33, 34, 35, 22, 23]) (fun _ => rfl) (fun _ => rfl) rfl (by omega) ?_ ⟨⟨_, rfl, rfl⟩, ⟨_, rfl, rfl⟩, trivial⟩ ⟨⟨_, rfl, rfl, rfl, (by first | exact fzP_vals (fun _ => rfl) rfl | exact fzP_vals (fun _ => rfl) (alT2_z p k).symm | exact fzP_vals (fun _ => rfl) (alT2_s (by first | omega | decide | (simp only [decide_eq_true_eq, decide_eq_false_iff_not, Bool.or_eq_false_iff, Bool.and_eq_true, Bool.not_eq_true', Bool.not_eq_false', Bool.not_true, Bool.not_false, ints_length, List.length_map, Int.toNat_natCast] at *; omega))).symm | exact fzP_vals (fun _ => rfl) (alT_1 (by first | omega | decide | (simp only [decide_eq_true_eq, decide_eq_false_iff_not, Bool.or_eq_false_iff, Bool.and_eq_true, Bool.not_eq_true', Bool.not_eq_false', Bool.not_true, Bool.not_false, ints_length, List.length_map, Int.toNat_natCast] at *; omega)) (by first | omega | decide | (simp only [decide_eq_true_eq, decide_eq_false_iff_not, Bool.or_eq_false_iff, Bool.and_eq_true, Bool.not_eq_true', Bool.not_eq_false', Bool.not_true, Bool.not_false, ints_length, List.length_map, Int.toNat_natCast] at *; omega)) (by first | omega | decide | (simp only [decide_eq_true_eq, decide_eq_false_iff_not, Bool.or_eq_false_iff, Bool.and_eq_true, Bool.not_eq_true', Bool.not_eq_false', Bool.not_true, Bool.not_false, ints_length, List.length_map, Int.toNat_natCast] at *; omega))) |  rfl | exact fzP_pure (ints_pure _) | exact fzP_pure (u64s_pure _) | exact fzP_pure (by assumption) | exact fzP_pure (by first | (simp [pureE, pure1, ints]; done) | (simp_all [pe_int, pe_bool, pe_str, pe_sl, pe_agg, p1_int, p1_bool, p1_str, p1_sl]; done)))⟩, ⟨_, rfl, rfl, rfl, (by first | exact fzP_vals (fun _ => rfl) rfl | exact fzP_vals (fun _ => rfl) (alT2_z p k).symm | exact fzP_vals (fun _ => rfl) (alT2_s (by first | omega | decide | (simp only [decide_eq_true_eq, decide_eq_false_iff_not, Bool.or_eq_false_iff, Bool.and_eq_true, Bool.not_eq_true', Bool.not_eq_false', Bool.not_true, Bool.not_false, ints_length, List.length_map, Int.toNat_natCast] at *; omega))).symm | exact fzP_vals (fun _ => rfl) (alT_1 (by first | omega | decide | (simp only [decide_eq_true_eq, decide_eq_false_iff_not, Bool.or_eq_false_iff, Bool.and_eq_true, Bool.not_eq_true', Bool.not_eq_false', Bool.not_true, Bool.not_false, ints_length, List.length_map, Int.toNat_natCast] at *; omega)) (by first | omega | decide | (simp only [decide_eq_true_eq, decide_eq_false_iff_not, Bool.or_eq_false_iff, Bool.and_eq_true, Bool.not_eq_true', Bool.not_eq_false', Bool.not_true, Bool.not_false, ints_length, List.length_map, Int.toNat_natCast] at *; omega)) (by first | omega | decide | (simp only [decide_eq_true_eq, decide_eq_false_iff_not, Bool.or_eq_false_iff, Bool.and_eq_true, Bool.not_eq_true', Bool.not_eq_false', Bool.not_true, Bool.not_false, ints_length, List.length_map, Int.toNat_natCast] at *; omega))) |  rfl | exact fzP_pure (ints_pure _) | exact fzP_pure (u64s_pure _) | exact fzP_pure (by assumption) | exact fzP_pure (by first | (simp [pureE, pure1, ints]; done) | (simp_all [pe_int, pe_bool, pe_str, pe_sl, pe_agg, p1_int, p1_bool, p1_str, p1_sl]; done)))⟩, trivial⟩ ?_; rotate_left; rintro ⟨j, g2, m⟩ hx; try dsimp only at hx)
    | ((first | (refine loopV_normal ((j + 1, g2 + 1, m + ((p.getD k F0).bs.getD j B0).code.length)) ?_ ⟨⟨_, rfl, rfl⟩, ⟨_, rfl, rfl⟩, trivial⟩ ⟨⟨_, rfl, rfl, rfl, (by first | exact fzP_vals (fun _ => rfl) rfl | exact fzP_vals (fun _ => rfl) (alT2_z p k).symm | exact fzP_vals (fun _ => rfl) (alT2_s (by first | omega | decide | (simp only [decide_eq_true_eq, decide_eq_false_iff_not, Bool.or_eq_false_iff, Bool.and_eq_true, Bool.not_eq_true', Bool.not_eq_false', Bool.not_true, Bool.not_false, ints_length, List.length_map, Int.toNat_natCast] at *; omega))).symm | exact fzP_vals (fun _ => rfl) (alT_1 (by first | omega | decide | (simp only [decide_eq_true_eq, decide_eq_false_iff_not, Bool.or_eq_false_iff, Bool.and_eq_true, Bool.not_eq_true', Bool.not_eq_false', Bool.not_true, Bool.not_false, ints_length, List.length_map, Int.toNat_natCast] at *; omega)) (by first | omega | decide | (simp only [decide_eq_true_eq, decide_eq_false_iff_not, Bool.or_eq_false_iff, Bool.and_eq_true, Bool.not_eq_true', Bool.not_eq_false', Bool.not_true, Bool.not_false, ints_length, List.length_map, Int.toNat_natCast] at *; omega)) (by first | omega | decide | (simp only [decide_eq_true_eq, decide_eq_false_iff_not, Bool.or_eq_false_iff, Bool.and_eq_true, Bool.not_eq_true', Bool.not_eq_false', Bool.not_true, Bool.not_false, ints_length, List.length_map, Int.toNat_natCast] at *; omega))) |  rfl | exact fzP_pure (ints_pure _) | exact fzP_pure (u64s_pure _) | exact fzP_pure (by assumption) | exact fzP_pure (by first | (simp [pureE, pure1, ints]; done) | (simp_all [pe_int, pe_bool, pe_str, pe_sl, pe_agg, p1_int, p1_bool, p1_str, p1_sl]; done)))⟩, ⟨_, rfl, rfl, rfl, (by first | exact fzP_vals (fun _ => rfl) rfl | exact fzP_vals (fun _ => rfl) (alT2_z p k).symm | exact fzP_vals (fun _ => rfl) (alT2_s (by first | omega | decide | (simp only [decide_eq_true_eq, decide_eq_false_iff_not, Bool.or_eq_false_iff, Bool.and_eq_true, Bool.not_eq_true', Bool.not_eq_false', Bool.not_true, Bool.not_false, ints_length, List.length_map, Int.toNat_natCast] at *; omega))).symm | exact fzP_vals (fun _ => rfl) (alT_1 (by first | omega | decide | (simp only [decide_eq_true_eq, decide_eq_false_iff_not, Bool.or_eq_false_iff, Bool.and_eq_true, Bool.not_eq_true', Bool.not_eq_false', Bool.not_true, Bool.not_false, ints_length, List.length_map, Int.toNat_natCast] at *; omega)) (by first | omega | decide | (simp only [decide_eq_true_eq, decide_eq_false_iff_not, Bool.or_eq_false_iff, Bool.and_eq_true, Bool.not_eq_true', Bool.not_eq_false', Bool.not_true, Bool.not_false, ints_length, List.length_map, Int.toNat_natCast] at *; omega)) (by first | omega | decide | (simp only [decide_eq_true_eq, decide_eq_false_iff_not, Bool.or_eq_false_iff, Bool.and_eq_true, Bool.not_eq_true', Bool.not_eq_false', Bool.not_true, Bool.not_false, ints_length, List.length_map, Int.toNat_natCast] at *; omega))) |  rfl | exact fzP_pure (ints_pure _) | exact fzP_pure (u64s_pure _) | exact fzP_pure (by assumption) | exact fzP_pure (by first | (simp [pureE, pure1, ints]; done) | (simp_all [pe_int, pe_bool, pe_str, pe_sl, pe_agg, p1_int, p1_bool, p1_str, p1_sl]; done)))⟩, trivial⟩ ?_ ?_)); repeat (first | exact only_refl | refine only_put rfl ?_ | refine only_less rfl ?_ | refine only_ov rfl ?_))
    | ((with_reducible apply n_val); rfl; rfl)
    | ((with_reducible apply n_new); rfl; (first | (simp only [hn0, hn1, hn2, hn3, hn4, hn5, List.length_cons, List.length_nil, Nat.reduceAdd, Nat.zero_add]; done) | (simp only [hn0, hn1, hn2, hn3, hn4, hn5, List.length_cons, List.length_nil, Nat.reduceAdd, Nat.zero_add]; rfl) | rfl); rfl)
    | ((with_reducible apply n_append); rfl; rfl; rfl; rfl; rfl; rfl; (first | decide | (simp only [List.length_append, List.length_cons, List.length_nil, List.length_set, List.length_replicate, ints_length] at *; omega)); rfl)
    | ((with_reducible apply n_append_lit); rfl; rfl; rfl; rfl; rfl; (first | decide | (simp only [List.length_append, List.length_cons, List.length_nil, List.length_set, List.length_replicate, ints_length] at *; omega)); (first | (simp only [hn0, hn1, hn2, hn3, hn4, hn5, List.length_cons, List.length_nil, Nat.reduceAdd, Nat.zero_add]; done) | (simp only [hn0, hn1, hn2, hn3, hn4, hn5, List.length_cons, List.length_nil, Nat.reduceAdd, Nat.zero_add]; rfl) | rfl); rfl)
    | (with_reducible refine condT_split (fun h => ?_) (fun h => ?_))
    | ((with_reducible apply fnQ_told_ret); rfl)
    | ((with_reducible apply fnQ_ret_soft); rfl; rfl)
    | ((with_reducible apply fnQ_ret_row); rfl; rfl; rfl)
  all_goals (try dsimp only at *)
  all_goals (try simp only [decide_eq_true_eq, decide_eq_false_iff_not, List.length_map, Int.toNat_natCast] at *)
  · omega
  · exact ⟨by omega, by rw [alT2_s (by omega), List.length_append, ← hx.2.1], hx.2.2⟩
  · omega
  · exact ⟨by omega, by rw [alT1_s (by omega), hx.2.1]; congr 2; omega⟩
  · exact ⟨Nat.zero_le _, by rw [alT2_z]; exact hx.2, h2 k (by omega)⟩
  · obtain rfl : k = p.length := by omega
    exact fnQ_ret_vals (f := pI) (xs := insP p) rfl (by rw [← alT1_all]; rfl) (fun _ => rfl) (by rw [hx.2, alT1_all]) rfl
  · exact ⟨Nat.zero_le _, rfl⟩
theorem okF_len {p : List Fn} {f : Fn} (h : okF p f = true) : f.bs.length ≤ 12 := by
  simp only [okF, bad5, Bool.and_eq_true, Bool.not_eq_true', Bool.or_eq_false_iff, decide_eq_false_iff_not] at h
  omega
theorem ins_form {p : List Fn} (sp : sane p = true) {a : In} (h : a ∈ insP p) : form a = true := by
  simp only [insP, insF, List.mem_flatMap] at h
  obtain ⟨f, hf, b, hb, ha⟩ := h
  have h3 := okF_blk (sane_ok sp hf) hb
  simp only [okB, bad3, Bool.and_eq_true, Bool.not_eq_true', Bool.or_eq_false_iff] at h3
  have h4 := List.any_eq_false.1 h3.2.2 a ha
  simp only [okI, Bool.not_eq_true', Bool.not_eq_false', Bool.and_eq_true] at h4
  simp at h4
  exact h4.1
theorem ins_id {p : List Fn} (sp : sane p = true) {k : Nat} (h : k < (insP p).length) : 0 ≤ ((insP p).getD k i0).id ∧ ((insP p).getD k i0).id < 96 := by
  have := (form_iff _).1 (ins_form sp (getD_mem i0 h))
  omega
theorem newId_spec {p : List Fn} (sp : sane p = true) : (newIdV p = -1 ∧ ∀ j : Nat, j < 96 → (metT (insP p)).getD j false = true) ∨ ∃ k : Nat, newIdV p = (k : Int) ∧ k < 96 ∧ (metT (insP p)).getD k false = false ∧ ∀ j : Nat, j < k → (metT (insP p)).getD j false = true := by
  have e : ∀ j : Nat, j < 96 → (metT (insP p)).getD j false = look (entF [] (idsP p)) (j : Int) := fun j hj => by
    rw [metT_at hj, look_entF, ids_all]
    simp [look]
  rw [newIdV, if_pos sp]
  rcases least_spec (entF [] (idsP p)) 96 with ⟨h1, h2⟩ | ⟨k, h1, h2, h3, h4⟩
  · exact .inl ⟨h1, fun j hj => (e j hj).trans (h2 j hj)⟩
  · exact .inr ⟨k, h1, h2, (e k h2).trans h3, fun j hj => (e j (by omega)).trans (h4 j hj)⟩
theorem newBlock_spec {p : List Fn} {f : Int} {x : Fn} (h : funV p f = some x) : (newBlockV p f = -1 ∧ ∀ j : Nat, j < 12 → liveF x (j : Int) = true) ∨ ∃ k : Nat, newBlockV p f = (k : Int) ∧ k < 12 ∧ liveF x (k : Int) = false ∧ ∀ j : Nat, j < k → liveF x (j : Int) = true := by
  have e : ∀ j : Nat, liveF x (j : Int) = look (entG x x.bs.length) (j : Int) := fun j => by rw [look_entG, liveF]
  rw [newBlockV, h]
  rcases least_spec (entG x x.bs.length) 12 with ⟨h1, h2⟩ | ⟨k, h1, h2, h3, h4⟩
  · exact .inl ⟨h1, fun j hj => (e j).trans (h2 j hj)⟩
  · exact .inr ⟨k, h1, h2, (e k).trans h3, fun j hj => (e j).trans (h4 j hj)⟩
theorem blk_some {p : List Fn} {f b : Int} {x : Fn} (h : funV p f = some x) : (blkV p f b).isSome = liveF x b := by
  rw [blkV, h, Option.getD_some]
  cases liveF x b <;> rfl
theorem metT_z' (l : List In) : List.replicate (96 : Int).toNat false = metT (l.take 0) := by rw [List.take_zero]; rfl
theorem metT_n {l : List In} {k : Nat} (h : ¬ ((k : Int) < (l.length : Nat))) : metT (l.take k) = metT l := by rw [List.take_of_length_le (by omega)]
theorem metT_x {l : List In} {k : Nat} (h : k < l.length) (h2 : 0 ≤ (l.getD k i0).id) : (metT (l.take k)).set (l.getD k i0).id.toNat true = metT (l.take (k + 1)) := by rw [take_snocI h, metT_s h2]
theorem l_ProgFresh (p : List Fn) (f : Int) : Pure Go.Proofs.Tryd.prog glD 3 [pP p, .int .i64 f] (.bool true) := by
  have hw := p_Few (gl := glD) p
  cases hf : few p with
  | false =>
    rw [hf] at hw
    refine Pure.fn hmix b3 ?_
    repeat' first
      | with_reducible refine tr_seq ?_
      | ((with_reducible refine tr_region_f ?_ ?_); kernel_rfl)
      | with_reducible refine n_nil ?_
      | exact ⟨rfl, rfl⟩
      | with_reducible refine seqQ_normal ?_
      | with_reducible refine seqQ_exit ?_
      | with_reducible refine seqQ_ret ?_
      | with_reducible refine blkQ_normal ?_
      | with_reducible refine blkQ_exit ?_
      | with_reducible refine blkQ_ret ?_
      | ((with_reducible refine blkQ_exit_ne ?_ ?_); rfl)
      | with_reducible refine tr_block ?_
      | with_reducible refine tr_skip ?_
      | with_reducible refine tr_exit ?_
      | with_reducible refine tr_ret ?_
      | ((with_reducible apply tr_cond_e); rfl)
      | with_reducible refine condT_t ?_
      | with_reducible refine condT_f ?_
      | ((with_reducible refine condT_T ?_ ?_); decide +kernel)
      | ((with_reducible refine condT_F ?_ ?_); decide +kernel)
      | ((with_reducible apply n_andF); rfl; rfl; decide +kernel)
      | ((with_reducible apply n_orT); rfl; rfl; decide +kernel)
      | ((with_reducible apply n_and); rfl; rfl; intro h)
      | ((with_reducible apply n_or); rfl; rfl; intro h)
      | with_reducible refine loopV_exit ?_
      | with_reducible refine loopV_ret ?_
      | with_reducible refine unrQ_normal ?_
      | with_reducible refine unrQ_exit ?_
      | with_reducible refine unrQ_ret ?_
      | ((with_reducible apply n_call (f := 7)); rfl; rfl; exact hw)
      | ((with_reducible apply n_val); rfl; rfl)
      | ((with_reducible apply n_new); rfl; (first | (simp only [hn0, hn1, hn2, hn3, hn4, hn5, List.length_cons, List.length_nil, Nat.reduceAdd, Nat.zero_add]; done) | (simp only [hn0, hn1, hn2, hn3, hn4, hn5, List.length_cons, List.length_nil, Nat.reduceAdd, Nat.zero_add]; rfl) | rfl); rfl)
      | ((with_reducible apply n_store); rfl; rfl; rfl; rfl; rfl)
      | ((with_reducible apply n_call (f := 6)); rfl; rfl; exact p_awake)
      | (with_reducible refine condT_split (fun h => ?_) (fun h => ?_))
      | ((with_reducible apply fnQ_told_ret); rfl)
      | ((with_reducible apply fnQ_ret_soft); rfl; rfl)
    all_goals rfl
  | true =>
    rw [hf] at hw
    have hp := few_fit hf
    have hs := p_Sane p hp
    cases sp : sane p with
    | false =>
      rw [sp] at hs
      refine Pure.fn hmix b3 ?_
      repeat' first
        | with_reducible refine tr_seq ?_
        | ((with_reducible refine tr_region_f ?_ ?_); kernel_rfl)
        | with_reducible refine n_nil ?_
        | exact ⟨rfl, rfl⟩
        | with_reducible refine seqQ_normal ?_
        | with_reducible refine seqQ_exit ?_
        | with_reducible refine seqQ_ret ?_
        | with_reducible refine blkQ_normal ?_
        | with_reducible refine blkQ_exit ?_
        | with_reducible refine blkQ_ret ?_
        | ((with_reducible refine blkQ_exit_ne ?_ ?_); rfl)
        | with_reducible refine tr_block ?_
        | with_reducible refine tr_skip ?_
        | with_reducible refine tr_exit ?_
        | with_reducible refine tr_ret ?_
        | ((with_reducible apply tr_cond_e); rfl)
        | with_reducible refine condT_t ?_
        | with_reducible refine condT_f ?_
        | ((with_reducible refine condT_T ?_ ?_); decide +kernel)
        | ((with_reducible refine condT_F ?_ ?_); decide +kernel)
        | ((with_reducible apply n_andF); rfl; rfl; decide +kernel)
        | ((with_reducible apply n_orT); rfl; rfl; decide +kernel)
        | ((with_reducible apply n_and); rfl; rfl; intro h)
        | ((with_reducible apply n_or); rfl; rfl; intro h)
        | with_reducible refine loopV_exit ?_
        | with_reducible refine loopV_ret ?_
        | with_reducible refine unrQ_normal ?_
        | with_reducible refine unrQ_exit ?_
        | with_reducible refine unrQ_ret ?_
        | ((with_reducible apply n_call (f := 7)); rfl; rfl; exact hw)
        | ((with_reducible apply n_call (f := 8)); rfl; rfl; exact hs)
        | ((with_reducible apply n_val); rfl; rfl)
        | ((with_reducible apply n_new); rfl; (first | (simp only [hn0, hn1, hn2, hn3, hn4, hn5, List.length_cons, List.length_nil, Nat.reduceAdd, Nat.zero_add]; done) | (simp only [hn0, hn1, hn2, hn3, hn4, hn5, List.length_cons, List.length_nil, Nat.reduceAdd, Nat.zero_add]; rfl) | rfl); rfl)
        | ((with_reducible apply n_store); rfl; rfl; rfl; rfl; rfl)
        | ((with_reducible apply n_call (f := 6)); rfl; rfl; exact p_awake)
        | (with_reducible refine condT_split (fun h => ?_) (fun h => ?_))
        | ((with_reducible apply fnQ_told_ret); rfl)
        | ((with_reducible apply fnQ_ret_soft); rfl; rfl)
      all_goals rfl
    | true =>
      rw [sp] at hs
      have hN := p_NewId p hp
      have hI := p_Instrs (gl := glD) p hf
      have hB := p_NewBlock p f hp
      have h1 : Pure Go.Proofs.Tryd.prog glD 12 [pP p, .int .i64 f] (.tup [pF ((funV p f).getD F0), .bool (funV p f).isSome]) := p_Fun p f hp
      have h2 : ∀ b, Pure Go.Proofs.Tryd.prog glD 13 [pP p, .int .i64 f, .int .i64 b] (.tup [pB ((blkV p f b).getD B0), .bool (blkV p f b).isSome]) := fun b => p_Block p f b hp
      have q1 := newId_spec sp
      have q2 := fun k (h : k < (insP p).length) => ins_id sp h
      have q3 := insP_le hf
      cases hfu : funV p f with
      | none =>
        have q4 : newBlockV p f = -1 := by rw [newBlockV, hfu]; rfl
        rw [q4] at hB
        rw [hfu] at h1
        generalize newIdV p = N at *
        refine Pure.fn hmix b3 ?_
        repeat' first
          | with_reducible refine tr_seq ?_
          | ((with_reducible refine tr_region_f ?_ ?_); kernel_rfl)
          | with_reducible refine n_nil ?_
          | exact ⟨rfl, rfl⟩
          | with_reducible refine seqQ_normal ?_
          | with_reducible refine seqQ_exit ?_
          | with_reducible refine seqQ_ret ?_
          | with_reducible refine blkQ_normal ?_
          | with_reducible refine blkQ_exit ?_
          | with_reducible refine blkQ_ret ?_
          | ((with_reducible refine blkQ_exit_ne ?_ ?_); rfl)
          | with_reducible refine tr_block ?_
          | with_reducible refine tr_skip ?_
          | with_reducible refine tr_exit ?_
          | with_reducible refine tr_ret ?_
          | ((with_reducible apply tr_cond_e); rfl)
          | with_reducible refine condT_t ?_
          | with_reducible refine condT_f ?_
          | ((with_reducible refine condT_T ?_ ?_); decide +kernel)
          | ((with_reducible refine condT_F ?_ ?_); decide +kernel)
          | ((with_reducible apply n_andF); rfl; rfl; decide +kernel)
          | ((with_reducible apply n_orT); rfl; rfl; decide +kernel)
          | ((with_reducible apply n_and); rfl; rfl; intro h)
          | ((with_reducible apply n_or); rfl; rfl; intro h)
          | with_reducible refine loopV_exit ?_
          | with_reducible refine loopV_ret ?_
          | with_reducible refine unrQ_normal ?_
          | with_reducible refine unrQ_exit ?_
          | with_reducible refine unrQ_ret ?_
          | ((with_reducible apply n_call (f := 7)); rfl; rfl; exact hw)
          | ((with_reducible apply n_call (f := 8)); rfl; rfl; exact hs)
          | ((with_reducible apply n_call (f := 12)); rfl; rfl; exact h1)
          | ((with_reducible apply n_call (f := 9)); rfl; rfl; exact hN)
          | ((with_reducible apply n_call (f := 11)); rfl; rfl; exact hB)
          | ((with_reducible apply n_call (f := 10)); rfl; rfl; exact hI)
          | ((with_reducible apply n_mk_vals (f := PV.bool) false); rfl; (first | (simp only [hn0, hn1, hn2, hn3, hn4, hn5, hn6, List.length_cons, List.length_nil, Nat.reduceAdd, Nat.reduceSub, Nat.zero_add, Nat.add_zero]; rfl) | rfl); rfl; rfl; decide)
          | ((with_reducible apply n_idx_own); rfl; rfl; rfl; (first | exact q2 k (by first | omega | decide | (simp only [decide_eq_true_eq, decide_eq_false_iff_not, Bool.or_eq_false_iff, Bool.and_eq_true, Bool.not_eq_true', Bool.not_eq_false', Bool.not_true, Bool.not_false, ints_length, List.length_map, Int.toNat_natCast] at *; omega)) | first | omega | decide | (simp only [decide_eq_true_eq, decide_eq_false_iff_not, Bool.or_eq_false_iff, Bool.and_eq_true, Bool.not_eq_true', Bool.not_eq_false', Bool.not_true, Bool.not_false, ints_length, List.length_map, Int.toNat_natCast] at *; omega)))
          | ((with_reducible apply n_store_vals (f := PV.bool) true); rfl; rfl; rfl; rfl; exact (fun _ => rfl); (rw [metT_len]; have := q2 k (by first | omega | decide | (simp only [decide_eq_true_eq, decide_eq_false_iff_not, Bool.or_eq_false_iff, Bool.and_eq_true, Bool.not_eq_true', Bool.not_eq_false', Bool.not_true, Bool.not_false, ints_length, List.length_map, Int.toNat_natCast] at *; omega)); simp only [Int.toNat_natCast]; omega))
          | ((with_reducible apply n_load_vals (f := PV.bool) false); rfl; rfl; rfl; (rw [metT_len]; first | omega | decide | (simp only [decide_eq_true_eq, decide_eq_false_iff_not, Bool.or_eq_false_iff, Bool.and_eq_true, Bool.not_eq_true', Bool.not_eq_false', Bool.not_true, Bool.not_false, ints_length, List.length_map, Int.toNat_natCast] at *; omega)))
          | ((with_reducible apply n_idx_vals i0); rfl; rfl; exact (fun _ => rfl); (first | omega | decide | (simp only [decide_eq_true_eq, decide_eq_false_iff_not, Bool.or_eq_false_iff, Bool.and_eq_true, Bool.not_eq_true', Bool.not_eq_false', Bool.not_true, Bool.not_false, ints_length, List.length_map, Int.toNat_natCast] at *; omega)))
          | (first | ((with_reducible apply n_bin); rfl; rfl; focus ((with_reducible (first | apply b_add | apply b_sub)) <;> first | omega | decide | (simp only [decide_eq_true_eq, decide_eq_false_iff_not, Bool.or_eq_false_iff, Bool.and_eq_true, Bool.not_eq_true', Bool.not_eq_false', Bool.not_true, Bool.not_false, ints_length, List.length_map, Int.toNat_natCast] at *; omega))) | ((with_reducible apply n_max); rfl; rfl) | ((with_reducible apply n_min); rfl; rfl))
          | (refine tr_loop_v (α := Nat) 2 (fun | k => [(9, some (.int .i64 (k : Int))), (32, none), (33, none), (34, none), (35, none), (38, none), (39, none), (40, none), (41, none), (42, none), (43, none), (44, none), (36, none), (37, none)]) (fun | k => [some ⟨0, 1, [pP p]⟩, some ⟨0, 1, (metT ((insP p).take k)).map PV.bool⟩]) (fun | k => k ≤ (insP p).length) (fun | k => (insP p).length - k) (0) (ks := [9, 32, 33, 34, 35, 38, 39, 40, 41, 42, 43, 44, 36, 37]) (fun _ => rfl) (fun _ => rfl) rfl (by omega) ?_ ⟨⟨_, rfl, rfl⟩, trivial⟩ ⟨⟨_, rfl, rfl, rfl, (by first | exact fzP_vals (fun _ => rfl) rfl | exact fzP_vals (fun _ => rfl) (metT_z' _) | exact fzP_vals (fun _ => rfl) (metT_n (by first | omega | decide | (simp only [decide_eq_true_eq, decide_eq_false_iff_not, Bool.or_eq_false_iff, Bool.and_eq_true, Bool.not_eq_true', Bool.not_eq_false', Bool.not_true, Bool.not_false, ints_length, List.length_map, Int.toNat_natCast] at *; omega))) | exact fzP_vals (fun _ => rfl) (metT_x (by first | omega | decide | (simp only [decide_eq_true_eq, decide_eq_false_iff_not, Bool.or_eq_false_iff, Bool.and_eq_true, Bool.not_eq_true', Bool.not_eq_false', Bool.not_true, Bool.not_false, ints_length, List.length_map, Int.toNat_natCast] at *; omega)) (q2 _ (by first | omega | decide | (simp only [decide_eq_true_eq, decide_eq_false_iff_not, Bool.or_eq_false_iff, Bool.and_eq_true, Bool.not_eq_true', Bool.not_eq_false', Bool.not_true, Bool.not_false, ints_length, List.length_map, Int.toNat_natCast] at *; omega))).1) |  rfl | exact fzP_pure (ints_pure _) | exact fzP_pure (u64s_pure _) | exact fzP_pure (by assumption) | exact fzP_pure (by first | (simp [pureE, pure1, ints]; done) | (simp_all [pe_int, pe_bool, pe_str, pe_sl, pe_agg, p1_int, p1_bool, p1_str, p1_sl]; done)))⟩, ⟨_, rfl, rfl, rfl, (by first | exact fzP_vals (fun _ => rfl) rfl | exact fzP_vals (fun _ => rfl) (metT_z' _) | exact fzP_vals (fun _ => rfl) (metT_n (by first | omega | decide | (simp only [decide_eq_true_eq, decide_eq_false_iff_not, Bool.or_eq_false_iff, Bool.and_eq_true, Bool.not_eq_true', Bool.not_eq_false', Bool.not_true, Bool.not_false, ints_length, List.length_map, Int.toNat_natCast] at *; omega))) | exact fzP_vals (fun _ => rfl) (metT_x (by first | omega | decide | (simp only [decide_eq_true_eq, decide_eq_false_iff_not, Bool.or_eq_false_iff, Bool.and_eq_true, Bool.not_eq_true', Bool.not_eq_false', Bool.not_true, Bool.not_false, ints_length, List.length_map, Int.toNat_natCast] at *; omega)) (q2 _ (by first | omega | decide | (simp only [decide_eq_true_eq, decide_eq_false_iff_not, Bool.or_eq_false_iff, Bool.and_eq_true, Bool.not_eq_true', Bool.not_eq_false', Bool.not_true, Bool.not_false, ints_length, List.length_map, Int.toNat_natCast] at *; omega))).1) |  rfl | exact fzP_pure (ints_pure _) | exact fzP_pure (u64s_pure _) | exact fzP_pure (by assumption) | exact fzP_pure (by first | (simp [pureE, pure1, ints]; done) | (simp_all [pe_int, pe_bool, pe_str, pe_sl, pe_agg, p1_int, p1_bool, p1_str, p1_sl]; done)))⟩, trivial⟩ ?_; rotate_left; rintro k hx; try dsimp only at hx)
          | ((first | (refine loopV_normal (k + 1) ?_ ⟨⟨_, rfl, rfl⟩, trivial⟩ ⟨⟨_, rfl, rfl, rfl, (by first | exact fzP_vals (fun _ => rfl) rfl | exact fzP_vals (fun _ => rfl) (metT_z' _) | exact fzP_vals (fun _ => rfl) (metT_n (by first | omega | decide | (simp only [decide_eq_true_eq, decide_eq_false_iff_not, Bool.or_eq_false_iff, Bool.and_eq_true, Bool.not_eq_true', Bool.not_eq_false', Bool.not_true, Bool.not_false, ints_length, List.length_map, Int.toNat_natCast] at *; omega))) | exact fzP_vals (fun _ => rfl) (metT_x (by first | omega | decide | (simp only [decide_eq_true_eq, decide_eq_false_iff_not, Bool.or_eq_false_iff, Bool.and_eq_true, Bool.not_eq_true', Bool.not_eq_false', Bool.not_true, Bool.not_false, ints_length, List.length_map, Int.toNat_natCast] at *; omega)) (q2 _ (by first | omega | decide | (simp only [decide_eq_true_eq, decide_eq_false_iff_not, Bool.or_eq_false_iff, Bool.and_eq_true, Bool.not_eq_true', Bool.not_eq_false', Bool.not_true, Bool.not_false, ints_length, List.length_map, Int.toNat_natCast] at *; omega))).1) |  rfl | exact fzP_pure (ints_pure _) | exact fzP_pure (u64s_pure _) | exact fzP_pure (by assumption) | exact fzP_pure (by first | (simp [pureE, pure1, ints]; done) | (simp_all [pe_int, pe_bool, pe_str, pe_sl, pe_agg, p1_int, p1_bool, p1_str, p1_sl]; done)))⟩, ⟨_, rfl, rfl, rfl, (by first | exact fzP_vals (fun _ => rfl) rfl | exact fzP_vals (fun _ => rfl) (metT_z' _) | exact fzP_vals (fun _ => rfl) (metT_n (by first | omega | decide | (simp only [decide_eq_true_eq, decide_eq_false_iff_not, Bool.or_eq_false_iff, Bool.and_eq_true, Bool.not_eq_true', Bool.not_eq_false', Bool.not_true, Bool.not_false, ints_length, List.length_map, Int.toNat_natCast] at *; omega))) | exact fzP_vals (fun _ => rfl) (metT_x (by first | omega | decide | (simp only [decide_eq_true_eq, decide_eq_false_iff_not, Bool.or_eq_false_iff, Bool.and_eq_true, Bool.not_eq_true', Bool.not_eq_false', Bool.not_true, Bool.not_false, ints_length, List.length_map, Int.toNat_natCast] at *; omega)) (q2 _ (by first | omega | decide | (simp only [decide_eq_true_eq, decide_eq_false_iff_not, Bool.or_eq_false_iff, Bool.and_eq_true, Bool.not_eq_true', Bool.not_eq_false', Bool.not_true, Bool.not_false, ints_length, List.length_map, Int.toNat_natCast] at *; omega))).1) |  rfl | exact fzP_pure (ints_pure _) | exact fzP_pure (u64s_pure _) | exact fzP_pure (by assumption) | exact fzP_pure (by first | (simp [pureE, pure1, ints]; done) | (simp_all [pe_int, pe_bool, pe_str, pe_sl, pe_agg, p1_int, p1_bool, p1_str, p1_sl]; done)))⟩, trivial⟩ ?_ ?_)); repeat (first | exact only_refl | refine only_put rfl ?_ | refine only_less rfl ?_ | refine only_ov rfl ?_))
          | (refine tr_loop_v (α := Nat) 2 (fun | i => [(10, some (.int .i64 (i : Int))), (45, none), (46, none), (49, none), (50, none), (51, none), (52, none), (53, none), (54, none), (55, none), (56, none), (57, none), (58, none), (59, none), (60, none), (61, none), (62, none), (63, none), (64, none), (65, none), (66, none), (67, none), (68, none), (69, none), (70, none), (71, none), (72, none), (73, none), (4, none), (47, none), (48, none)]) (fun | i => [some ⟨0, 1, [pP p]⟩, some ⟨0, 1, (metT (insP p)).map PV.bool⟩]) (fun | i => i ≤ 96) (fun | i => 96 - i) (0) (ks := [10, 45, 46, 49, 50, 51, 52, 53, 54, 55, 56, 57, 58, 59, 60, 61, 62, 63, 64, 65, 66, 67, 68, 69, 70, 71, 72, 73, 4, 47, 48]) (fun _ => rfl) (fun _ => rfl) rfl (by omega) ?_ ⟨⟨_, rfl, rfl⟩, trivial⟩ ⟨⟨_, rfl, rfl, rfl, (by first | exact fzP_vals (fun _ => rfl) rfl | exact fzP_vals (fun _ => rfl) (metT_z' _) | exact fzP_vals (fun _ => rfl) (metT_n (by first | omega | decide | (simp only [decide_eq_true_eq, decide_eq_false_iff_not, Bool.or_eq_false_iff, Bool.and_eq_true, Bool.not_eq_true', Bool.not_eq_false', Bool.not_true, Bool.not_false, ints_length, List.length_map, Int.toNat_natCast] at *; omega))) | exact fzP_vals (fun _ => rfl) (metT_x (by first | omega | decide | (simp only [decide_eq_true_eq, decide_eq_false_iff_not, Bool.or_eq_false_iff, Bool.and_eq_true, Bool.not_eq_true', Bool.not_eq_false', Bool.not_true, Bool.not_false, ints_length, List.length_map, Int.toNat_natCast] at *; omega)) (q2 _ (by first | omega | decide | (simp only [decide_eq_true_eq, decide_eq_false_iff_not, Bool.or_eq_false_iff, Bool.and_eq_true, Bool.not_eq_true', Bool.not_eq_false', Bool.not_true, Bool.not_false, ints_length, List.length_map, Int.toNat_natCast] at *; omega))).1) |  rfl | exact fzP_pure (ints_pure _) | exact fzP_pure (u64s_pure _) | exact fzP_pure (by assumption) | exact fzP_pure (by first | (simp [pureE, pure1, ints]; done) | (simp_all [pe_int, pe_bool, pe_str, pe_sl, pe_agg, p1_int, p1_bool, p1_str, p1_sl]; done)))⟩, ⟨_, rfl, rfl, rfl, (by first | exact fzP_vals (fun _ => rfl) rfl | exact fzP_vals (fun _ => rfl) (metT_z' _) | exact fzP_vals (fun _ => rfl) (metT_n (by first | omega | decide | (simp only [decide_eq_true_eq, decide_eq_false_iff_not, Bool.or_eq_false_iff, Bool.and_eq_true, Bool.not_eq_true', Bool.not_eq_false', Bool.not_true, Bool.not_false, ints_length, List.length_map, Int.toNat_natCast] at *; omega))) | exact fzP_vals (fun _ => rfl) (metT_x (by first | omega | decide | (simp only [decide_eq_true_eq, decide_eq_false_iff_not, Bool.or_eq_false_iff, Bool.and_eq_true, Bool.not_eq_true', Bool.not_eq_false', Bool.not_true, Bool.not_false, ints_length, List.length_map, Int.toNat_natCast] at *; omega)) (q2 _ (by first | omega | decide | (simp only [decide_eq_true_eq, decide_eq_false_iff_not, Bool.or_eq_false_iff, Bool.and_eq_true, Bool.not_eq_true', Bool.not_eq_false', Bool.not_true, Bool.not_false, ints_length, List.length_map, Int.toNat_natCast] at *; omega))).1) |  rfl | exact fzP_pure (ints_pure _) | exact fzP_pure (u64s_pure _) | exact fzP_pure (by assumption) | exact fzP_pure (by first | (simp [pureE, pure1, ints]; done) | (simp_all [pe_int, pe_bool, pe_str, pe_sl, pe_agg, p1_int, p1_bool, p1_str, p1_sl]; done)))⟩, trivial⟩ ?_; rotate_left; rintro i hx; try dsimp only at hx)
          | ((first | (refine loopV_normal (i + 1) ?_ ⟨⟨_, rfl, rfl⟩, trivial⟩ ⟨⟨_, rfl, rfl, rfl, (by first | exact fzP_vals (fun _ => rfl) rfl | exact fzP_vals (fun _ => rfl) (metT_z' _) | exact fzP_vals (fun _ => rfl) (metT_n (by first | omega | decide | (simp only [decide_eq_true_eq, decide_eq_false_iff_not, Bool.or_eq_false_iff, Bool.and_eq_true, Bool.not_eq_true', Bool.not_eq_false', Bool.not_true, Bool.not_false, ints_length, List.length_map, Int.toNat_natCast] at *; omega))) | exact fzP_vals (fun _ => rfl) (metT_x (by first | omega | decide | (simp only [decide_eq_true_eq, decide_eq_false_iff_not, Bool.or_eq_false_iff, Bool.and_eq_true, Bool.not_eq_true', Bool.not_eq_false', Bool.not_true, Bool.not_false, ints_length, List.length_map, Int.toNat_natCast] at *; omega)) (q2 _ (by first | omega | decide | (simp only [decide_eq_true_eq, decide_eq_false_iff_not, Bool.or_eq_false_iff, Bool.and_eq_true, Bool.not_eq_true', Bool.not_eq_false', Bool.not_true, Bool.not_false, ints_length, List.length_map, Int.toNat_natCast] at *; omega))).1) |  rfl | exact fzP_pure (ints_pure _) | exact fzP_pure (u64s_pure _) | exact fzP_pure (by assumption) | exact fzP_pure (by first | (simp [pureE, pure1, ints]; done) | (simp_all [pe_int, pe_bool, pe_str, pe_sl, pe_agg, p1_int, p1_bool, p1_str, p1_sl]; done)))⟩, ⟨_, rfl, rfl, rfl, (by first | exact fzP_vals (fun _ => rfl) rfl | exact fzP_vals (fun _ => rfl) (metT_z' _) | exact fzP_vals (fun _ => rfl) (metT_n (by first | omega | decide | (simp only [decide_eq_true_eq, decide_eq_false_iff_not, Bool.or_eq_false_iff, Bool.and_eq_true, Bool.not_eq_true', Bool.not_eq_false', Bool.not_true, Bool.not_false, ints_length, List.length_map, Int.toNat_natCast] at *; omega))) | exact fzP_vals (fun _ => rfl) (metT_x (by first | omega | decide | (simp only [decide_eq_true_eq, decide_eq_false_iff_not, Bool.or_eq_false_iff, Bool.and_eq_true, Bool.not_eq_true', Bool.not_eq_false', Bool.not_true, Bool.not_false, ints_length, List.length_map, Int.toNat_natCast] at *; omega)) (q2 _ (by first | omega | decide | (simp only [decide_eq_true_eq, decide_eq_false_iff_not, Bool.or_eq_false_iff, Bool.and_eq_true, Bool.not_eq_true', Bool.not_eq_false', Bool.not_true, Bool.not_false, ints_length, List.length_map, Int.toNat_natCast] at *; omega))).1) |  rfl | exact fzP_pure (ints_pure _) | exact fzP_pure (u64s_pure _) | exact fzP_pure (by assumption) | exact fzP_pure (by first | (simp [pureE, pure1, ints]; done) | (simp_all [pe_int, pe_bool, pe_str, pe_sl, pe_agg, p1_int, p1_bool, p1_str, p1_sl]; done)))⟩, trivial⟩ ?_ ?_)); repeat (first | exact only_refl | refine only_put rfl ?_ | refine only_less rfl ?_ | refine only_ov rfl ?_))
          | ((with_reducible apply n_val); rfl; rfl)
          | ((with_reducible apply n_new); rfl; (first | (simp only [hn0, hn1, hn2, hn3, hn4, hn5, List.length_cons, List.length_nil, Nat.reduceAdd, Nat.zero_add]; done) | (simp only [hn0, hn1, hn2, hn3, hn4, hn5, List.length_cons, List.length_nil, Nat.reduceAdd, Nat.zero_add]; rfl) | rfl); rfl)
          | ((with_reducible apply n_store); rfl; rfl; rfl; rfl; rfl)
          | ((with_reducible apply n_call (f := 6)); rfl; rfl; exact p_awake)
          | (with_reducible refine condT_split (fun h => ?_) (fun h => ?_))
          | ((with_reducible apply fnQ_told_ret); rfl)
          | ((with_reducible apply fnQ_ret_soft); rfl; rfl)
        all_goals (try dsimp only at *)
        all_goals (try simp only [decide_eq_true_eq, decide_eq_false_iff_not, List.length_map, Int.toNat_natCast] at *)
        all_goals first
          | omega
          | rfl
          | (exfalso
             rename (_ || _) = true => hb
             rw [fresh_no (g := fun j => (metT (insP p)).getD j false) q1 (by omega)] at hb
             cases hb)
      | some x =>
        have q4 := newBlock_spec hfu
        have q5 := fun b => blk_some (b := b) hfu
        simp only [q5] at h2
        rw [hfu] at h1
        have q6 : x.bs.length ≤ 12 := by
          unfold funV at hfu
          split at hfu
          · injection hfu with e
            have := okF_len (sane_ok sp (e ▸ getD_mem F0 (by omega)))
            exact this
          · cases hfu
        generalize newIdV p = N at *
        generalize newBlockV p f = M at *
        refine Pure.fn hmix b3 ?_
        repeat' first
          | with_reducible refine tr_seq ?_
          | ((with_reducible refine tr_region_f ?_ ?_); kernel_rfl)
          | with_reducible refine n_nil ?_
          | exact ⟨rfl, rfl⟩
          | with_reducible refine seqQ_normal ?_
          | with_reducible refine seqQ_exit ?_
          | with_reducible refine seqQ_ret ?_
          | with_reducible refine blkQ_normal ?_
          | with_reducible refine blkQ_exit ?_
          | with_reducible refine blkQ_ret ?_
          | ((with_reducible refine blkQ_exit_ne ?_ ?_); rfl)
          | with_reducible refine tr_block ?_
          | with_reducible refine tr_skip ?_
          | with_reducible refine tr_exit ?_
          | with_reducible refine tr_ret ?_
          | ((with_reducible apply tr_cond_e); rfl)
          | with_reducible refine condT_t ?_
          | with_reducible refine condT_f ?_
          | ((with_reducible refine condT_T ?_ ?_); decide +kernel)
          | ((with_reducible refine condT_F ?_ ?_); decide +kernel)
          | ((with_reducible apply n_andF); rfl; rfl; decide +kernel)
          | ((with_reducible apply n_orT); rfl; rfl; decide +kernel)
          | ((with_reducible apply n_and); rfl; rfl; intro h)
          | ((with_reducible apply n_or); rfl; rfl; intro h)
          | with_reducible refine loopV_exit ?_
          | with_reducible refine loopV_ret ?_
          | with_reducible refine unrQ_normal ?_
          | with_reducible refine unrQ_exit ?_
          | with_reducible refine unrQ_ret ?_
          | ((with_reducible apply n_call (f := 7)); rfl; rfl; exact hw)
          | ((with_reducible apply n_call (f := 8)); rfl; rfl; exact hs)
          | ((with_reducible apply n_call (f := 12)); rfl; rfl; exact h1)
          | ((with_reducible apply n_call (f := 13)); rfl; rfl; exact h2 _)
          | ((with_reducible apply n_call (f := 9)); rfl; rfl; exact hN)
          | ((with_reducible apply n_call (f := 11)); rfl; rfl; exact hB)
          | ((with_reducible apply n_call (f := 10)); rfl; rfl; exact hI)
          | ((with_reducible apply n_mk_vals (f := PV.bool) false); rfl; (first | (simp only [hn0, hn1, hn2, hn3, hn4, hn5, hn6, List.length_cons, List.length_nil, Nat.reduceAdd, Nat.reduceSub, Nat.zero_add, Nat.add_zero]; rfl) | rfl); rfl; rfl; decide)
          | ((with_reducible apply n_idx_own); rfl; rfl; rfl; (first | exact q2 k (by first | omega | decide | (simp only [decide_eq_true_eq, decide_eq_false_iff_not, Bool.or_eq_false_iff, Bool.and_eq_true, Bool.not_eq_true', Bool.not_eq_false', Bool.not_true, Bool.not_false, ints_length, List.length_map, Int.toNat_natCast] at *; omega)) | first | omega | decide | (simp only [decide_eq_true_eq, decide_eq_false_iff_not, Bool.or_eq_false_iff, Bool.and_eq_true, Bool.not_eq_true', Bool.not_eq_false', Bool.not_true, Bool.not_false, ints_length, List.length_map, Int.toNat_natCast] at *; omega)))
          | ((with_reducible apply n_store_vals (f := PV.bool) true); rfl; rfl; rfl; rfl; exact (fun _ => rfl); (rw [metT_len]; have := q2 k (by first | omega | decide | (simp only [decide_eq_true_eq, decide_eq_false_iff_not, Bool.or_eq_false_iff, Bool.and_eq_true, Bool.not_eq_true', Bool.not_eq_false', Bool.not_true, Bool.not_false, ints_length, List.length_map, Int.toNat_natCast] at *; omega)); simp only [Int.toNat_natCast]; omega))
          | ((with_reducible apply n_load_vals (f := PV.bool) false); rfl; rfl; rfl; (rw [metT_len]; first | omega | decide | (simp only [decide_eq_true_eq, decide_eq_false_iff_not, Bool.or_eq_false_iff, Bool.and_eq_true, Bool.not_eq_true', Bool.not_eq_false', Bool.not_true, Bool.not_false, ints_length, List.length_map, Int.toNat_natCast] at *; omega)))
          | ((with_reducible apply n_idx_vals i0); rfl; rfl; exact (fun _ => rfl); (first | omega | decide | (simp only [decide_eq_true_eq, decide_eq_false_iff_not, Bool.or_eq_false_iff, Bool.and_eq_true, Bool.not_eq_true', Bool.not_eq_false', Bool.not_true, Bool.not_false, ints_length, List.length_map, Int.toNat_natCast] at *; omega)))
          | (first | ((with_reducible apply n_bin); rfl; rfl; focus ((with_reducible (first | apply b_add | apply b_sub)) <;> first | omega | decide | (simp only [decide_eq_true_eq, decide_eq_false_iff_not, Bool.or_eq_false_iff, Bool.and_eq_true, Bool.not_eq_true', Bool.not_eq_false', Bool.not_true, Bool.not_false, ints_length, List.length_map, Int.toNat_natCast] at *; omega))) | ((with_reducible apply n_max); rfl; rfl) | ((with_reducible apply n_min); rfl; rfl))
          | (refine tr_loop_v (α := Nat) 2 (fun | k => [(9, some (.int .i64 (k : Int))), (32, none), (33, none), (34, none), (35, none), (38, none), (39, none), (40, none), (41, none), (42, none), (43, none), (44, none), (36, none), (37, none)]) (fun | k => [some ⟨0, 1, [pP p]⟩, some ⟨0, 1, (metT ((insP p).take k)).map PV.bool⟩]) (fun | k => k ≤ (insP p).length) (fun | k => (insP p).length - k) (0) (ks := [9, 32, 33, 34, 35, 38, 39, 40, 41, 42, 43, 44, 36, 37]) (fun _ => rfl) (fun _ => rfl) rfl (by omega) ?_ ⟨⟨_, rfl, rfl⟩, trivial⟩ ⟨⟨_, rfl, rfl, rfl, (by first | exact fzP_vals (fun _ => rfl) rfl | exact fzP_vals (fun _ => rfl) (metT_z' _) | exact fzP_vals (fun _ => rfl) (metT_n (by first | omega | decide | (simp only [decide_eq_true_eq, decide_eq_false_iff_not, Bool.or_eq_false_iff, Bool.and_eq_true, Bool.not_eq_true', Bool.not_eq_false', Bool.not_true, Bool.not_false, ints_length, List.length_map, Int.toNat_natCast] at *; omega))) | exact fzP_vals (fun _ => rfl) (metT_x (by first | omega | decide | (simp only [decide_eq_true_eq, decide_eq_false_iff_not, Bool.or_eq_false_iff, Bool.and_eq_true, Bool.not_eq_true', Bool.not_eq_false', Bool.not_true, Bool.not_false, ints_length, List.length_map, Int.toNat_natCast] at *; omega)) (q2 _ (by first | omega | decide | (simp only [decide_eq_true_eq, decide_eq_false_iff_not, Bool.or_eq_false_iff, Bool.and_eq_true, Bool.not_eq_true', Bool.not_eq_false', Bool.not_true, Bool.not_false, ints_length, List.length_map, Int.toNat_natCast] at *; omega))).1) |  rfl | exact fzP_pure (ints_pure _) | exact fzP_pure (u64s_pure _) | exact fzP_pure (by assumption) | exact fzP_pure (by first | (simp [pureE, pure1, ints]; done) | (simp_all [pe_int, pe_bool, pe_str, pe_sl, pe_agg, p1_int, p1_bool, p1_str, p1_sl]; done)))⟩, ⟨_, rfl, rfl, rfl, (by first | exact fzP_vals (fun _ => rfl) rfl | exact fzP_vals (fun _ => rfl) (metT_z' _) | exact fzP_vals (fun _ => rfl) (metT_n (by first | omega | decide | (simp only [decide_eq_true_eq, decide_eq_false_iff_not, Bool.or_eq_false_iff, Bool.and_eq_true, Bool.not_eq_true', Bool.not_eq_false', Bool.not_true, Bool.not_false, ints_length, List.length_map, Int.toNat_natCast] at *; omega))) | exact fzP_vals (fun _ => rfl) (metT_x (by first | omega | decide | (simp only [decide_eq_true_eq, decide_eq_false_iff_not, Bool.or_eq_false_iff, Bool.and_eq_true, Bool.not_eq_true', Bool.not_eq_false', Bool.not_true, Bool.not_false, ints_length, List.length_map, Int.toNat_natCast] at *; omega)) (q2 _ (by first | omega | decide | (simp only [decide_eq_true_eq, decide_eq_false_iff_not, Bool.or_eq_false_iff, Bool.and_eq_true, Bool.not_eq_true', Bool.not_eq_false', Bool.not_true, Bool.not_false, ints_length, List.length_map, Int.toNat_natCast] at *; omega))).1) |  rfl | exact fzP_pure (ints_pure _) | exact fzP_pure (u64s_pure _) | exact fzP_pure (by assumption) | exact fzP_pure (by first | (simp [pureE, pure1, ints]; done) | (simp_all [pe_int, pe_bool, pe_str, pe_sl, pe_agg, p1_int, p1_bool, p1_str, p1_sl]; done)))⟩, trivial⟩ ?_; rotate_left; rintro k hx; try dsimp only at hx)
          | ((first | (refine loopV_normal (k + 1) ?_ ⟨⟨_, rfl, rfl⟩, trivial⟩ ⟨⟨_, rfl, rfl, rfl, (by first | exact fzP_vals (fun _ => rfl) rfl | exact fzP_vals (fun _ => rfl) (metT_z' _) | exact fzP_vals (fun _ => rfl) (metT_n (by first | omega | decide | (simp only [decide_eq_true_eq, decide_eq_false_iff_not, Bool.or_eq_false_iff, Bool.and_eq_true, Bool.not_eq_true', Bool.not_eq_false', Bool.not_true, Bool.not_false, ints_length, List.length_map, Int.toNat_natCast] at *; omega))) | exact fzP_vals (fun _ => rfl) (metT_x (by first | omega | decide | (simp only [decide_eq_true_eq, decide_eq_false_iff_not, Bool.or_eq_false_iff, Bool.and_eq_true, Bool.not_eq_true', Bool.not_eq_false', Bool.not_true, Bool.not_false, ints_length, List.length_map, Int.toNat_natCast] at *; omega)) (q2 _ (by first | omega | decide | (simp only [decide_eq_true_eq, decide_eq_false_iff_not, Bool.or_eq_false_iff, Bool.and_eq_true, Bool.not_eq_true', Bool.not_eq_false', Bool.not_true, Bool.not_false, ints_length, List.length_map, Int.toNat_natCast] at *; omega))).1) |  rfl | exact fzP_pure (ints_pure _) | exact fzP_pure (u64s_pure _) | exact fzP_pure (by assumption) | exact fzP_pure (by first | (simp [pureE, pure1, ints]; done) | (simp_all [pe_int, pe_bool, pe_str, pe_sl, pe_agg, p1_int, p1_bool, p1_str, p1_sl]; done)))⟩, ⟨_, rfl, rfl, rfl, (by first | exact fzP_vals (fun _ => rfl) rfl | exact fzP_vals (fun _ => rfl) (metT_z' _) | exact fzP_vals (fun _ => rfl) (metT_n (by first | omega | decide | (simp only [decide_eq_true_eq, decide_eq_false_iff_not, Bool.or_eq_false_iff, Bool.and_eq_true, Bool.not_eq_true', Bool.not_eq_false', Bool.not_true, Bool.not_false, ints_length, List.length_map, Int.toNat_natCast] at *; omega))) | exact fzP_vals (fun _ => rfl) (metT_x (by first | omega | decide | (simp only [decide_eq_true_eq, decide_eq_false_iff_not, Bool.or_eq_false_iff, Bool.and_eq_true, Bool.not_eq_true', Bool.not_eq_false', Bool.not_true, Bool.not_false, ints_length, List.length_map, Int.toNat_natCast] at *; omega)) (q2 _ (by first | omega | decide | (simp only [decide_eq_true_eq, decide_eq_false_iff_not, Bool.or_eq_false_iff, Bool.and_eq_true, Bool.not_eq_true', Bool.not_eq_false', Bool.not_true, Bool.not_false, ints_length, List.length_map, Int.toNat_natCast] at *; omega))).1) |  rfl | exact fzP_pure (ints_pure _) | exact fzP_pure (u64s_pure _) | exact fzP_pure (by assumption) | exact fzP_pure (by first | (simp [pureE, pure1, ints]; done) | (simp_all [pe_int, pe_bool, pe_str, pe_sl, pe_agg, p1_int, p1_bool, p1_str, p1_sl]; done)))⟩, trivial⟩ ?_ ?_)); repeat (first | exact only_refl | refine only_put rfl ?_ | refine only_less rfl ?_ | refine only_ov rfl ?_))
          | (refine tr_loop_v (α := Nat) 2 (fun | i => [(10, some (.int .i64 (i : Int))), (45, none), (46, none), (49, none), (50, none), (51, none), (52, none), (53, none), (54, none), (55, none), (56, none), (57, none), (58, none), (59, none), (60, none), (61, none), (62, none), (63, none), (64, none), (65, none), (66, none), (67, none), (68, none), (69, none), (70, none), (71, none), (72, none), (73, none), (4, none), (47, none), (48, none)]) (fun | i => [some ⟨0, 1, [pP p]⟩, some ⟨0, 1, (metT (insP p)).map PV.bool⟩]) (fun | i => i ≤ 96) (fun | i => 96 - i) (0) (ks := [10, 45, 46, 49, 50, 51, 52, 53, 54, 55, 56, 57, 58, 59, 60, 61, 62, 63, 64, 65, 66, 67, 68, 69, 70, 71, 72, 73, 4, 47, 48]) (fun _ => rfl) (fun _ => rfl) rfl (by omega) ?_ ⟨⟨_, rfl, rfl⟩, trivial⟩ ⟨⟨_, rfl, rfl, rfl, (by first | exact fzP_vals (fun _ => rfl) rfl | exact fzP_vals (fun _ => rfl) (metT_z' _) | exact fzP_vals (fun _ => rfl) (metT_n (by first | omega | decide | (simp only [decide_eq_true_eq, decide_eq_false_iff_not, Bool.or_eq_false_iff, Bool.and_eq_true, Bool.not_eq_true', Bool.not_eq_false', Bool.not_true, Bool.not_false, ints_length, List.length_map, Int.toNat_natCast] at *; omega))) | exact fzP_vals (fun _ => rfl) (metT_x (by first | omega | decide | (simp only [decide_eq_true_eq, decide_eq_false_iff_not, Bool.or_eq_false_iff, Bool.and_eq_true, Bool.not_eq_true', Bool.not_eq_false', Bool.not_true, Bool.not_false, ints_length, List.length_map, Int.toNat_natCast] at *; omega)) (q2 _ (by first | omega | decide | (simp only [decide_eq_true_eq, decide_eq_false_iff_not, Bool.or_eq_false_iff, Bool.and_eq_true, Bool.not_eq_true', Bool.not_eq_false', Bool.not_true, Bool.not_false, ints_length, List.length_map, Int.toNat_natCast] at *; omega))).1) |  rfl | exact fzP_pure (ints_pure _) | exact fzP_pure (u64s_pure _) | exact fzP_pure (by assumption) | exact fzP_pure (by first | (simp [pureE, pure1, ints]; done) | (simp_all [pe_int, pe_bool, pe_str, pe_sl, pe_agg, p1_int, p1_bool, p1_str, p1_sl]; done)))⟩, ⟨_, rfl, rfl, rfl, (by first | exact fzP_vals (fun _ => rfl) rfl | exact fzP_vals (fun _ => rfl) (metT_z' _) | exact fzP_vals (fun _ => rfl) (metT_n (by first | omega | decide | (simp only [decide_eq_true_eq, decide_eq_false_iff_not, Bool.or_eq_false_iff, Bool.and_eq_true, Bool.not_eq_true', Bool.not_eq_false', Bool.not_true, Bool.not_false, ints_length, List.length_map, Int.toNat_natCast] at *; omega))) | exact fzP_vals (fun _ => rfl) (metT_x (by first | omega | decide | (simp only [decide_eq_true_eq, decide_eq_false_iff_not, Bool.or_eq_false_iff, Bool.and_eq_true, Bool.not_eq_true', Bool.not_eq_false', Bool.not_true, Bool.not_false, ints_length, List.length_map, Int.toNat_natCast] at *; omega)) (q2 _ (by first | omega | decide | (simp only [decide_eq_true_eq, decide_eq_false_iff_not, Bool.or_eq_false_iff, Bool.and_eq_true, Bool.not_eq_true', Bool.not_eq_false', Bool.not_true, Bool.not_false, ints_length, List.length_map, Int.toNat_natCast] at *; omega))).1) |  rfl | exact fzP_pure (ints_pure _) | exact fzP_pure (u64s_pure _) | exact fzP_pure (by assumption) | exact fzP_pure (by first | (simp [pureE, pure1, ints]; done) | (simp_all [pe_int, pe_bool, pe_str, pe_sl, pe_agg, p1_int, p1_bool, p1_str, p1_sl]; done)))⟩, trivial⟩ ?_; rotate_left; rintro i hx; try dsimp only at hx)
          | ((first | (refine loopV_normal (i + 1) ?_ ⟨⟨_, rfl, rfl⟩, trivial⟩ ⟨⟨_, rfl, rfl, rfl, (by first | exact fzP_vals (fun _ => rfl) rfl | exact fzP_vals (fun _ => rfl) (metT_z' _) | exact fzP_vals (fun _ => rfl) (metT_n (by first | omega | decide | (simp only [decide_eq_true_eq, decide_eq_false_iff_not, Bool.or_eq_false_iff, Bool.and_eq_true, Bool.not_eq_true', Bool.not_eq_false', Bool.not_true, Bool.not_false, ints_length, List.length_map, Int.toNat_natCast] at *; omega))) | exact fzP_vals (fun _ => rfl) (metT_x (by first | omega | decide | (simp only [decide_eq_true_eq, decide_eq_false_iff_not, Bool.or_eq_false_iff, Bool.and_eq_true, Bool.not_eq_true', Bool.not_eq_false', Bool.not_true, Bool.not_false, ints_length, List.length_map, Int.toNat_natCast] at *; omega)) (q2 _ (by first | omega | decide | (simp only [decide_eq_true_eq, decide_eq_false_iff_not, Bool.or_eq_false_iff, Bool.and_eq_true, Bool.not_eq_true', Bool.not_eq_false', Bool.not_true, Bool.not_false, ints_length, List.length_map, Int.toNat_natCast] at *; omega))).1) |  rfl | exact fzP_pure (ints_pure _) | exact fzP_pure (u64s_pure _) | exact fzP_pure (by assumption) | exact fzP_pure (by first | (simp [pureE, pure1, ints]; done) | (simp_all [pe_int, pe_bool, pe_str, pe_sl, pe_agg, p1_int, p1_bool, p1_str, p1_sl]; done)))⟩, ⟨_, rfl, rfl, rfl, (by first | exact fzP_vals (fun _ => rfl) rfl | exact fzP_vals (fun _ => rfl) (metT_z' _) | exact fzP_vals (fun _ => rfl) (metT_n (by first | omega | decide | (simp only [decide_eq_true_eq, decide_eq_false_iff_not, Bool.or_eq_false_iff, Bool.and_eq_true, Bool.not_eq_true', Bool.not_eq_false', Bool.not_true, Bool.not_false, ints_length, List.length_map, Int.toNat_natCast] at *; omega))) | exact fzP_vals (fun _ => rfl) (metT_x (by first | omega | decide | (simp only [decide_eq_true_eq, decide_eq_false_iff_not, Bool.or_eq_false_iff, Bool.and_eq_true, Bool.not_eq_true', Bool.not_eq_false', Bool.not_true, Bool.not_false, ints_length, List.length_map, Int.toNat_natCast] at *; omega)) (q2 _ (by first | omega | decide | (simp only [decide_eq_true_eq, decide_eq_false_iff_not, Bool.or_eq_false_iff, Bool.and_eq_true, Bool.not_eq_true', Bool.not_eq_false', Bool.not_true, Bool.not_false, ints_length, List.length_map, Int.toNat_natCast] at *; omega))).1) |  rfl | exact fzP_pure (ints_pure _) | exact fzP_pure (u64s_pure _) | exact fzP_pure (by assumption) | exact fzP_pure (by first | (simp [pureE, pure1, ints]; done) | (simp_all [pe_int, pe_bool, pe_str, pe_sl, pe_agg, p1_int, p1_bool, p1_str, p1_sl]; done)))⟩, trivial⟩ ?_ ?_)); repeat (first | exact only_refl | refine only_put rfl ?_ | refine only_less rfl ?_ | refine only_ov rfl ?_))
          | (refine tr_loop_v (α := Nat) 3 (fun | i => [(14, some (.int .i64 (i : Int))), (90, none), (91, none), (95, none), (96, none), (97, none), (98, none), (94, none), (99, none), (100, none), (15, none), (16, none), (101, none), (102, none), (103, none), (104, none), (105, none), (106, none), (107, none), (108, none), (109, none), (110, none), (111, none), (112, none), (113, none), (114, none), (115, none), (116, none), (117, none), (118, none), (119, none), (4, none), (92, none), (93, none)]) (fun | i => [some ⟨0, 1, [pP p]⟩, some ⟨0, 1, (metT (insP p)).map PV.bool⟩, some ⟨0, 3, [pF x]⟩]) (fun | i => i ≤ 12) (fun | i => 12 - i) (0) (ks := [14, 90, 91, 95, 96, 97, 98, 94, 99, 100, 15, 16, 101, 102, 103, 104, 105, 106, 107, 108, 109, 110, 111, 112, 113, 114, 115, 116, 117, 118, 119, 4, 92, 93]) (fun _ => rfl) (fun _ => rfl) rfl (by omega) ?_ ⟨⟨_, rfl, rfl⟩, trivial⟩ ⟨⟨_, rfl, rfl, rfl, (by first | exact fzP_vals (fun _ => rfl) rfl | exact fzP_vals (fun _ => rfl) (metT_z' _) | exact fzP_vals (fun _ => rfl) (metT_n (by first | omega | decide | (simp only [decide_eq_true_eq, decide_eq_false_iff_not, Bool.or_eq_false_iff, Bool.and_eq_true, Bool.not_eq_true', Bool.not_eq_false', Bool.not_true, Bool.not_false, ints_length, List.length_map, Int.toNat_natCast] at *; omega))) | exact fzP_vals (fun _ => rfl) (metT_x (by first | omega | decide | (simp only [decide_eq_true_eq, decide_eq_false_iff_not, Bool.or_eq_false_iff, Bool.and_eq_true, Bool.not_eq_true', Bool.not_eq_false', Bool.not_true, Bool.not_false, ints_length, List.length_map, Int.toNat_natCast] at *; omega)) (q2 _ (by first | omega | decide | (simp only [decide_eq_true_eq, decide_eq_false_iff_not, Bool.or_eq_false_iff, Bool.and_eq_true, Bool.not_eq_true', Bool.not_eq_false', Bool.not_true, Bool.not_false, ints_length, List.length_map, Int.toNat_natCast] at *; omega))).1) |  rfl | exact fzP_pure (ints_pure _) | exact fzP_pure (u64s_pure _) | exact fzP_pure (by assumption) | exact fzP_pure (by first | (simp [pureE, pure1, ints]; done) | (simp_all [pe_int, pe_bool, pe_str, pe_sl, pe_agg, p1_int, p1_bool, p1_str, p1_sl]; done)))⟩, ⟨_, rfl, rfl, rfl, (by first | exact fzP_vals (fun _ => rfl) rfl | exact fzP_vals (fun _ => rfl) (metT_z' _) | exact fzP_vals (fun _ => rfl) (metT_n (by first | omega | decide | (simp only [decide_eq_true_eq, decide_eq_false_iff_not, Bool.or_eq_false_iff, Bool.and_eq_true, Bool.not_eq_true', Bool.not_eq_false', Bool.not_true, Bool.not_false, ints_length, List.length_map, Int.toNat_natCast] at *; omega))) | exact fzP_vals (fun _ => rfl) (metT_x (by first | omega | decide | (simp only [decide_eq_true_eq, decide_eq_false_iff_not, Bool.or_eq_false_iff, Bool.and_eq_true, Bool.not_eq_true', Bool.not_eq_false', Bool.not_true, Bool.not_false, ints_length, List.length_map, Int.toNat_natCast] at *; omega)) (q2 _ (by first | omega | decide | (simp only [decide_eq_true_eq, decide_eq_false_iff_not, Bool.or_eq_false_iff, Bool.and_eq_true, Bool.not_eq_true', Bool.not_eq_false', Bool.not_true, Bool.not_false, ints_length, List.length_map, Int.toNat_natCast] at *; omega))).1) |  rfl | exact fzP_pure (ints_pure _) | exact fzP_pure (u64s_pure _) | exact fzP_pure (by assumption) | exact fzP_pure (by first | (simp [pureE, pure1, ints]; done) | (simp_all [pe_int, pe_bool, pe_str, pe_sl, pe_agg, p1_int, p1_bool, p1_str, p1_sl]; done)))⟩, ⟨_, rfl, rfl, rfl, (by first | exact fzP_vals (fun _ => rfl) rfl | exact fzP_vals (fun _ => rfl) (metT_z' _) | exact fzP_vals (fun _ => rfl) (metT_n (by first | omega | decide | (simp only [decide_eq_true_eq, decide_eq_false_iff_not, Bool.or_eq_false_iff, Bool.and_eq_true, Bool.not_eq_true', Bool.not_eq_false', Bool.not_true, Bool.not_false, ints_length, List.length_map, Int.toNat_natCast] at *; omega))) | exact fzP_vals (fun _ => rfl) (metT_x (by first | omega | decide | (simp only [decide_eq_true_eq, decide_eq_false_iff_not, Bool.or_eq_false_iff, Bool.and_eq_true, Bool.not_eq_true', Bool.not_eq_false', Bool.not_true, Bool.not_false, ints_length, List.length_map, Int.toNat_natCast] at *; omega)) (q2 _ (by first | omega | decide | (simp only [decide_eq_true_eq, decide_eq_false_iff_not, Bool.or_eq_false_iff, Bool.and_eq_true, Bool.not_eq_true', Bool.not_eq_false', Bool.not_true, Bool.not_false, ints_length, List.length_map, Int.toNat_natCast] at *; omega))).1) |  rfl | exact fzP_pure (ints_pure _) | exact fzP_pure (u64s_pure _) | exact fzP_pure (by assumption) | exact fzP_pure (by first | (simp [pureE, pure1, ints]; done) | (simp_all [pe_int, pe_bool, pe_str, pe_sl, pe_agg, p1_int, p1_bool, p1_str, p1_sl]; done)))⟩, trivial⟩ ?_; rotate_left; rintro i hx; try dsimp only at hx)
          | ((first | (refine loopV_normal (i + 1) ?_ ⟨⟨_, rfl, rfl⟩, trivial⟩ ⟨⟨_, rfl, rfl, rfl, (by first | exact fzP_vals (fun _ => rfl) rfl | exact fzP_vals (fun _ => rfl) (metT_z' _) | exact fzP_vals (fun _ => rfl) (metT_n (by first | omega | decide | (simp only [decide_eq_true_eq, decide_eq_false_iff_not, Bool.or_eq_false_iff, Bool.and_eq_true, Bool.not_eq_true', Bool.not_eq_false', Bool.not_true, Bool.not_false, ints_length, List.length_map, Int.toNat_natCast] at *; omega))) | exact fzP_vals (fun _ => rfl) (metT_x (by first | omega | decide | (simp only [decide_eq_true_eq, decide_eq_false_iff_not, Bool.or_eq_false_iff, Bool.and_eq_true, Bool.not_eq_true', Bool.not_eq_false', Bool.not_true, Bool.not_false, ints_length, List.length_map, Int.toNat_natCast] at *; omega)) (q2 _ (by first | omega | decide | (simp only [decide_eq_true_eq, decide_eq_false_iff_not, Bool.or_eq_false_iff, Bool.and_eq_true, Bool.not_eq_true', Bool.not_eq_false', Bool.not_true, Bool.not_false, ints_length, List.length_map, Int.toNat_natCast] at *; omega))).1) |  rfl | exact fzP_pure (ints_pure _) | exact fzP_pure (u64s_pure _) | exact fzP_pure (by assumption) | exact fzP_pure (by first | (simp [pureE, pure1, ints]; done) | (simp_all [pe_int, pe_bool, pe_str, pe_sl, pe_agg, p1_int, p1_bool, p1_str, p1_sl]; done)))⟩, ⟨_, rfl, rfl, rfl, (by first | exact fzP_vals (fun _ => rfl) rfl | exact fzP_vals (fun _ => rfl) (metT_z' _) | exact fzP_vals (fun _ => rfl) (metT_n (by first | omega | decide | (simp only [decide_eq_true_eq, decide_eq_false_iff_not, Bool.or_eq_false_iff, Bool.and_eq_true, Bool.not_eq_true', Bool.not_eq_false', Bool.not_true, Bool.not_false, ints_length, List.length_map, Int.toNat_natCast] at *; omega))) | exact fzP_vals (fun _ => rfl) (metT_x (by first | omega | decide | (simp only [decide_eq_true_eq, decide_eq_false_iff_not, Bool.or_eq_false_iff, Bool.and_eq_true, Bool.not_eq_true', Bool.not_eq_false', Bool.not_true, Bool.not_false, ints_length, List.length_map, Int.toNat_natCast] at *; omega)) (q2 _ (by first | omega | decide | (simp only [decide_eq_true_eq, decide_eq_false_iff_not, Bool.or_eq_false_iff, Bool.and_eq_true, Bool.not_eq_true', Bool.not_eq_false', Bool.not_true, Bool.not_false, ints_length, List.length_map, Int.toNat_natCast] at *; omega))).1) |  rfl | exact fzP_pure (ints_pure _) | exact fzP_pure (u64s_pure _) | exact fzP_pure (by assumption) | exact fzP_pure (by first | (simp [pureE, pure1, ints]; done) | (simp_all [pe_int, pe_bool, pe_str, pe_sl, pe_agg, p1_int, p1_bool, p1_str, p1_sl]; done)))⟩, ⟨_, rfl, rfl, rfl, (by first | exact fzP_vals (fun _ => rfl) rfl | exact fzP_vals (fun _ => rfl) (metT_z' _) | exact fzP_vals (fun _ => rfl) (metT_n (by first | omega | decide | (simp only [decide_eq_true_eq, decide_eq_false_iff_not, Bool.or_eq_false_iff, Bool.and_eq_true, Bool.not_eq_true', Bool.not_eq_false', Bool.not_true, Bool.not_false, ints_length, List.length_map, Int.toNat_natCast] at *; omega))) | exact fzP_vals (fun _ => rfl) (metT_x (by first | omega | decide | (simp only [decide_eq_true_eq, decide_eq_false_iff_not, Bool.or_eq_false_iff, Bool.and_eq_true, Bool.not_eq_true', Bool.not_eq_false', Bool.not_true, Bool.not_false, ints_length, List.length_map, Int.toNat_natCast] at *; omega)) (q2 _ (by first | omega | decide | (simp only [decide_eq_true_eq, decide_eq_false_iff_not, Bool.or_eq_false_iff, Bool.and_eq_true, Bool.not_eq_true', Bool.not_eq_false', Bool.not_true, Bool.not_false, ints_length, List.length_map, Int.toNat_natCast] at *; omega))).1) |  rfl | exact fzP_pure (ints_pure _) | exact fzP_pure (u64s_pure _) | exact fzP_pure (by assumption) | exact fzP_pure (by first | (simp [pureE, pure1, ints]; done) | (simp_all [pe_int, pe_bool, pe_str, pe_sl, pe_agg, p1_int, p1_bool, p1_str, p1_sl]; done)))⟩, trivial⟩ ?_ ?_)); repeat (first | exact only_refl | refine only_put rfl ?_ | refine only_less rfl ?_ | refine only_ov rfl ?_))
          | ((with_reducible apply n_val); rfl; rfl)
          | ((with_reducible apply n_new); rfl; (first | (simp only [hn0, hn1, hn2, hn3, hn4, hn5, List.length_cons, List.length_nil, Nat.reduceAdd, Nat.zero_add]; done) | (simp only [hn0, hn1, hn2, hn3, hn4, hn5, List.length_cons, List.length_nil, Nat.reduceAdd, Nat.zero_add]; rfl) | rfl); rfl)
          | ((with_reducible apply n_store); rfl; rfl; rfl; rfl; rfl)
          | ((with_reducible apply n_call (f := 6)); rfl; rfl; exact p_awake)
          | (with_reducible refine condT_split (fun h => ?_) (fun h => ?_))
          | ((with_reducible apply fnQ_told_ret); rfl)
          | ((with_reducible apply fnQ_ret_soft); rfl; rfl)
        all_goals (try dsimp only at *)
        all_goals (try simp only [decide_eq_true_eq, decide_eq_false_iff_not, List.length_map, Int.toNat_natCast] at *)
        all_goals first
          | omega
          | rfl
          | (exfalso
             rename (_ || _) = true => hb
             rw [fresh_no (g := fun j => (metT (insP p)).getD j false) q1 (by omega)] at hb
             cases hb)
          | (exfalso
             rename (_ || _) = true => hb
             rw [fresh_no (g := fun j => liveF x (j : Int)) q4 (by omega)] at hb
             cases hb)
          | (exfalso; rename (!_) = true => hb; exact absurd hb (by simp))
          | (refine congrArg PV.bool ?_
             have e1 : M < 12 := by rcases q4 with ⟨rfl, _⟩ | ⟨k, rfl, h, _⟩ <;> omega
             have e2 : N < 96 := by rcases q1 with ⟨rfl, _⟩ | ⟨k, rfl, h, _⟩ <;> omega
             rw [decide_eq_true e1, decide_eq_true e2, decide_eq_true (by omega)]; rfl)
end Go.Vm
end
