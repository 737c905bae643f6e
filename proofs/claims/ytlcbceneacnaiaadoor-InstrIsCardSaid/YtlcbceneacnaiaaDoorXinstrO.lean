/- Laid. -/
import Derived.Test.YtlcbceneacnaiaaDoorVmThree
import Derived.KernelRfl
import Derived.Test.YtlcbceneacnaiaaDoorProg
import Derived.Test.YtlcbceneacnaiaaDoorXinstrN
import Derived.Test.YtlcbceneacnaiaaDoorLAll
section
/- Code. -/
set_option maxRecDepth 100000
set_option linter.unusedSimpArgs false
set_option linter.unusedVariables false
namespace Go.Vm
open Go

/-- bywash/bywashlaw05.InstrTells -/
def c6 : RFn := ⟨(.seq (.region (Nodes.flat none (.op (some 3) (.box (.t 0)) 0
  (.op (some 4) (.box (.t 1)) 0
  (.op (some 6) (.move (.c (.bool false))) 0
  .nil)))) false)
 (.seq (.region (Nodes.flat none (.op (some 15) (.call 7 []) 0
  (.op (some 7) (.move (.t 15)) 0
  .nil))) false)
 (.seq (.seq (.region (Nodes.flat none (.op (some 16) (.fieldAddr 1 (.t 3)) 0
  (.op (some 17) (.load none (.t 16)) 0
  (.op (some 18) (.len false (.t 17)) 0
  (.op (some 19) (.bin .gtr (.t 18) (.c (.int .i64 50))) 0
  .nil))))) false)
 (.cond (.t 19)
 (.seq (.region (Nodes.flat none (.op (some 20) (.move (.t 7)) 0
  (.op (some 6) (.move (.t 20)) 0
  .nil))) false)
 .ret)
 .skip))
 (.seq (.region (Nodes.flat none (.op (some 21) (.load (some 2) (.t 3)) 0
  (.op (some 22) (.call 25 [(.t 21)]) 0
  (.op (some 8) (.alloc (.agg [(.bool false), (.lit [])])) 0
  (.op none (.store 2 (.t 8) (.t 22)) 0
  .nil))))) false)
 (.seq (.region (Nodes.flat none (.op (some 23) (.load (some 2) (.t 8)) 0
  (.op (some 24) (.load (some 11) (.t 4)) 0
  (.op (some 25) (.call 26 [(.t 23), (.t 24)]) 0
  (.op (some 9) (.alloc (.agg [(.bool false), (.lit [])])) 0
  (.op none (.store 2 (.t 9) (.t 25)) 0
  .nil)))))) false)
 (.seq (.region (Nodes.flat none (.op (some 26) (.load (some 11) (.t 4)) 0
  (.op (some 27) (.call 13 [(.t 26)]) 0
  (.op (some 10) (.move (.t 27)) 0
  .nil)))) false)
 (.seq (.seq (.region (Nodes.flat none (.op (some 28) (.fieldAddr 0 (.t 9)) 0
  (.op (some 29) (.load none (.t 28)) 1
  (.op (some 30) (.fieldAddr 0 (.t 8)) 0
  (.op (some 31) (.load none (.t 30)) 4
  (.op (some 32) (.binb .neq (.t 29) (.t 31)) 15
  (.op (some 33) (.move (.t 32)) 31
  (.grd 33 false
  (.op (some 34) (.move (.t 2)) 63
  (.op (some 35) (.move (.t 10)) 63
  (.op (some 36) (.bin .neq (.t 34) (.t 35)) 255
  (.op (some 37) (.move (.t 36)) 511
  (.grd 37 true
  (.op (some 38) (.load (some 2) (.t 9)) 1023
  (.op (some 39) (.move (.t 2)) 1023
  (.op (some 40) (.call 27 [(.t 38), (.t 39)]) 4095
  (.op (some 41) (.load (some 2) (.t 8)) 1023
  (.op (some 42) (.move (.t 2)) 1023
  (.op (some 43) (.call 27 [(.t 41), (.t 42)]) 32767
  (.op (some 44) (.eqs true [(0, 1), (1, 1)] (.t 40) (.t 43)) 65535
  .nil)))))))
  (.op (some 45) (.pick (.t 37) (.t 44) (.c (.bool false))) 131071
  .nil))))))
  (.op (some 46) (.pick (.t 33) (.c (.bool true)) (.t 45)) 262143
  (.op (some 47) (.move (.t 46)) 524287
  (.grd 47 false
  (.op (some 48) (.move (.t 10)) 1048575
  (.op (some 49) (.bin .lss (.t 48) (.c (.int .i64 0))) 2097151
  (.op (some 50) (.move (.t 49)) 4194303
  (.grd 50 true
  (.op (some 51) (.load (some 2) (.t 9)) 8388607
  (.op (some 52) (.load (some 2) (.t 8)) 8388607
  (.op (some 53) (.call 28 [(.t 51), (.t 52)]) 33554431
  (.op (some 54) (.un .not (.t 53)) 67108863
  .nil))))
  (.op (some 55) (.pick (.t 50) (.t 54) (.c (.bool false))) 134217727
  .nil)))))
  (.op (some 56) (.pick (.t 47) (.c (.bool true)) (.t 55)) 268435455
  .nil)))))))))))) true)
 (.cond (.t 56)
 (.seq (.region (Nodes.flat none (.op (some 6) (.move (.c (.bool false))) 0
  .nil)) false)
 .ret)
 .skip))
 (.seq (.region (Nodes.flat none (.op (some 57) (.load (some 11) (.t 4)) 0
  (.op (some 58) (.call 11 [(.t 57)]) 0
  (.op (some 11) (.move (.t 58)) 0
  .nil)))) false)
 (.seq (.region (Nodes.flat none (.op (some 12) (.move (.c (.bool false))) 0
  .nil)) false)
 (.seq (.seq (.region (Nodes.flat none (.op (some 13) (.move (.c (.int .i64 0))) 0
  .nil)) false)
 (.block 0 (.loop (.seq (.seq (.region (Nodes.flat none (.op (some 59) (.move (.t 13)) 0
  (.op (some 60) (.move (.t 11)) 0
  (.op (some 61) (.len false (.t 60)) 0
  (.op (some 62) (.bin .lss (.t 59) (.t 61)) 0
  .nil))))) false)
 (.cond (.t 62)
 .skip
 (.exit 0)))
 (.seq (.block 1 (.region (Nodes.flat none (.op (some 65) (.move (.t 12)) 0
  (.op (some 66) (.move (.t 65)) 0
  (.grd 66 false
  (.op (some 67) (.move (.t 11)) 0
  (.op (some 68) (.move (.t 13)) 0
  (.op (some 69) (.idxAddr 1 (.t 67) (.t 68)) 0
  (.op (some 70) (.load none (.t 69)) 0
  (.op (some 71) (.move (.t 10)) 0
  (.op (some 72) (.bin .eql (.t 70) (.t 71)) 0
  .nil))))))
  (.op (some 73) (.pick (.t 66) (.c (.bool true)) (.t 72)) 0
  (.op (some 12) (.move (.t 73)) 0
  .nil)))))) false))
 (.region (Nodes.flat none (.op (some 63) (.move (.t 13)) 0
  (.op (some 64) (.bin .add (.t 63) (.c (.int .i64 1))) 0
  (.op (some 13) (.move (.t 64)) 0
  .nil)))) false))))))
 (.seq (.region (Nodes.flat none (.op (some 74) (.move (.t 10)) 0
  (.op (some 75) (.bslice false 1 1 (.int .i64 0) [(0, (.t 74))]) 1
  (.op (some 76) (.call 29 [(.c (.int .i64 50)), (.t 75)]) 3
  (.op (some 77) (.load (some 11) (.t 4)) 0
  (.op (some 78) (.call 10 [(.t 76), (.t 77)]) 15
  (.op (some 14) (.alloc (.agg [(.int .i64 0), (.lit [])])) 0
  (.op none (.store 2 (.t 14) (.t 78)) 63
  .nil)))))))) true)
 (.seq (.region (Nodes.flat none (.op (some 79) (.move (.t 7)) 0
  (.op (some 80) (.move (.t 79)) 0
  (.grd 80 true
  (.op (some 81) (.move (.t 10)) 0
  (.op (some 82) (.bin .lss (.t 81) (.c (.int .i64 0))) 0
  (.op (some 83) (.move (.t 82)) 0
  (.grd 83 false
  (.op (some 84) (.move (.t 10)) 0
  (.op (some 85) (.bin .geq (.t 84) (.c (.int .i64 50))) 0
  .nil))
  (.op (some 86) (.pick (.t 83) (.c (.bool true)) (.t 85)) 0
  (.op (some 87) (.move (.t 86)) 0
  (.grd 87 false
  (.op (some 88) (.load (some 2) (.t 14)) 0
  (.op (some 89) (.move (.t 10)) 0
  (.op (some 90) (.call 12 [(.t 88), (.t 89)]) 0
  (.op (some 91) (.move (.t 12)) 0
  (.op (some 92) (.binb .eql (.t 90) (.t 91)) 0
  .nil)))))
  (.op (some 93) (.pick (.t 87) (.c (.bool true)) (.t 92)) 0
  .nil))))))))
  (.op (some 94) (.pick (.t 80) (.t 93) (.c (.bool false))) 0
  (.op (some 95) (.move (.t 94)) 0
  (.grd 95 true
  (.op (some 96) (.load (some 11) (.t 4)) 0
  (.op (some 97) (.call 21 [(.t 96)]) 0
  (.op (some 98) (.len false (.t 97)) 0
  (.op (some 99) (.move (.t 11)) 0
  (.op (some 100) (.len false (.t 99)) 0
  (.op (some 101) (.bin .add (.t 100) (.c (.int .i64 1))) 0
  (.op (some 102) (.bin .leq (.t 98) (.t 101)) 0
  .nil)))))))
  (.op (some 103) (.pick (.t 95) (.t 102) (.c (.bool false))) 0
  (.op (some 104) (.move (.t 103)) 0
  (.grd 104 true
  (.op (some 105) (.move (.t 10)) 0
  (.op (some 106) (.bin .lss (.t 105) (.c (.int .i64 0))) 0
  (.op (some 107) (.load (some 11) (.t 4)) 0
  (.op (some 108) (.call 16 [(.t 107)]) 0
  (.op (some 109) (.un .not (.t 108)) 0
  (.op (some 110) (.move (.t 109)) 0
  (.grd 110 false
  (.op (some 111) (.fieldAddr 1 (.t 4)) 0
  (.op (some 112) (.load none (.t 111)) 0
  (.op (some 113) (.bin .eql (.t 112) (.c (.int .i64 8))) 0
  .nil)))
  (.op (some 114) (.pick (.t 110) (.c (.bool true)) (.t 113)) 0
  (.op (some 115) (.move (.t 114)) 0
  (.grd 115 false
  (.op (some 116) (.fieldAddr 1 (.t 4)) 0
  (.op (some 117) (.load none (.t 116)) 0
  (.op (some 118) (.bin .eql (.t 117) (.c (.int .i64 9))) 0
  .nil)))
  (.op (some 119) (.pick (.t 115) (.c (.bool true)) (.t 118)) 0
  (.op (some 120) (.binb .eql (.t 106) (.t 119)) 0
  .nil))))))))))))
  (.op (some 121) (.pick (.t 104) (.t 120) (.c (.bool false))) 0
  (.op (some 6) (.move (.t 121)) 0
  .nil)))))))))))) false)
 .ret)))))))))))),
 [.tmp 6]⟩
theorem b6 : fnOf Go.Proofs.Tryd.prog (owOf [(15, 1)]) 6 = some c6 := by kernel_rfl

end Go.Vm

end

section
/- Walks. -/
set_option maxRecDepth 100000
set_option linter.unusedSimpArgs false
set_option linter.unusedVariables false
namespace Go.Vm
open Go

set_option maxHeartbeats 4000000
theorem p_Of50 (d : Int) : Pure Go.Proofs.Tryd.prog glD 29 [.int .i64 50, .sl [.int .i64 d]] (mk 50 (ofV 50 [d])) := p_bits_Of (gl := glD) 50 [d] (by simp)
theorem l_InstrTells (on : Bool) (l : List (Int × Int)) (i : In) (k : Int) : Pure Go.Proofs.Tryd.prog glD 6 [eIn pq on l, pI i, .int .i64 k] (.bool true) := by
  have hu := usesI_len i
  refine Pure.fn hmix b6 ?_
  repeat' first
    | with_reducible refine tr_seq ?_
    | ((with_reducible refine tr_region_f ?_ ?_); kernel_rfl)
    | ((with_reducible refine tr_region_t ?_ ?_ ?_); kernel_rfl; kernel_rfl)
    | with_reducible refine n_nil ?_
    | exact ⟨rfl, rfl⟩
    | with_reducible refine seqQ_normal ?_
    | with_reducible refine seqQ_exit ?_
    | with_reducible refine seqQ_ret ?_
    | with_reducible refine blkQ_normal ?_
    | with_reducible refine blkQ_exit ?_
    | with_reducible refine blkQ_ret ?_
    | ((with_reducible refine blkQ_exit_ne ?_ ?_); rfl)
    | with_reducible refine tr_block ?_
    | with_reducible refine tr_skip ?_
    | with_reducible refine tr_exit ?_
    | with_reducible refine tr_ret ?_
    | ((with_reducible apply tr_cond_e); rfl)
    | with_reducible refine condT_t ?_
    | with_reducible refine condT_f ?_
    | ((with_reducible apply n_and); rfl; rfl; intro h)
    | ((with_reducible apply n_or); rfl; rfl; intro h)
    | with_reducible refine loopV_exit ?_
    | with_reducible refine loopV_ret ?_
    | ((with_reducible apply n_idx_ints); rfl; rfl; first | omega | decide | (simp only [decide_eq_true_eq, decide_eq_false_iff_not, Bool.or_eq_false_iff, Bool.not_eq_true', Bool.not_eq_false', Bool.not_true, Bool.not_false, ints_length, List.length_map, tab_length] at *; omega))
    | (first | ((with_reducible apply n_bin); rfl; rfl; focus ((with_reducible (first | apply b_add | apply b_sub)) <;> first | omega | decide | (simp only [decide_eq_true_eq, decide_eq_false_iff_not, Bool.or_eq_false_iff, Bool.not_eq_true', Bool.not_eq_false', Bool.not_true, Bool.not_false, ints_length, List.length_map, tab_length] at *; omega))) | ((with_reducible apply n_max); rfl; rfl) | ((with_reducible apply n_min); rfl; rfl))
    | (refine tr_loop_v (α := Bool × Int) 4 (fun | (r, n) => [(12, some (.bool r)), (13, some (.int .i64 n)), (59, none), (60, none), (61, none), (62, none), (65, none), (66, none), (67, none), (68, none), (69, none), (70, none), (71, none), (72, none), (73, none), (63, none), (64, none)]) (fun | (r, n) => [some ⟨0, 2, [eIn pq on l]⟩, some ⟨0, 11, [pI i]⟩, some ⟨0, 2, [eIn pq on l]⟩, some ⟨0, 2, [eOut pv (flatE (eAbs fq on l) i)]⟩]) (fun | (r, n) => 0 ≤ n ∧ n ≤ (usesI i).length ∧ r = ((usesI i).take n.toNat).contains (defI i)) (fun | (r, n) => ((usesI i).length - n).toNat) ((false, 0)) (ks := [12, 13, 59, 60, 61, 62, 65, 66, 67, 68, 69, 70, 71, 72, 73, 63, 64]) (fun _ => rfl) (fun _ => rfl) rfl (by omega) ?_ ⟨⟨_, rfl, rfl⟩, ⟨_, rfl, rfl⟩, trivial⟩ ⟨⟨_, rfl, rfl, rfl, (by first |  rfl | exact fzP_pure (ints_pure _) | exact fzP_pure (u64s_pure _) | exact fzP_pure (by assumption) | exact fzP_pure (by first | (simp [pureE, pure1, ints]; done) | (simp_all [pe_int, pe_bool, pe_str, pe_sl, pe_agg, p1_int, p1_bool, p1_str, p1_sl]; done)))⟩, ⟨_, rfl, rfl, rfl, (by first |  rfl | exact fzP_pure (ints_pure _) | exact fzP_pure (u64s_pure _) | exact fzP_pure (by assumption) | exact fzP_pure (by first | (simp [pureE, pure1, ints]; done) | (simp_all [pe_int, pe_bool, pe_str, pe_sl, pe_agg, p1_int, p1_bool, p1_str, p1_sl]; done)))⟩, ⟨_, rfl, rfl, rfl, (by first |  rfl | exact fzP_pure (ints_pure _) | exact fzP_pure (u64s_pure _) | exact fzP_pure (by assumption) | exact fzP_pure (by first | (simp [pureE, pure1, ints]; done) | (simp_all [pe_int, pe_bool, pe_str, pe_sl, pe_agg, p1_int, p1_bool, p1_str, p1_sl]; done)))⟩, ⟨_, rfl, rfl, rfl, (by first |  rfl | exact fzP_pure (ints_pure _) | exact fzP_pure (u64s_pure _) | exact fzP_pure (by assumption) | exact fzP_pure (by first | (simp [pureE, pure1, ints]; done) | (simp_all [pe_int, pe_bool, pe_str, pe_sl, pe_agg, p1_int, p1_bool, p1_str, p1_sl]; done)))⟩, trivial⟩ ?_; rotate_left; rintro ⟨r, n⟩ hx; try dsimp only at hx)
    | ((first | (refine loopV_normal ((r || decide ((usesI i).getD n.toNat 0 = defI i), n + 1)) ?_ ⟨⟨_, rfl, rfl⟩, ⟨_, rfl, rfl⟩, trivial⟩ ⟨⟨_, rfl, rfl, rfl, (by first |  rfl | exact fzP_pure (ints_pure _) | exact fzP_pure (u64s_pure _) | exact fzP_pure (by assumption) | exact fzP_pure (by first | (simp [pureE, pure1, ints]; done) | (simp_all [pe_int, pe_bool, pe_str, pe_sl, pe_agg, p1_int, p1_bool, p1_str, p1_sl]; done)))⟩, ⟨_, rfl, rfl, rfl, (by first |  rfl | exact fzP_pure (ints_pure _) | exact fzP_pure (u64s_pure _) | exact fzP_pure (by assumption) | exact fzP_pure (by first | (simp [pureE, pure1, ints]; done) | (simp_all [pe_int, pe_bool, pe_str, pe_sl, pe_agg, p1_int, p1_bool, p1_str, p1_sl]; done)))⟩, ⟨_, rfl, rfl, rfl, (by first |  rfl | exact fzP_pure (ints_pure _) | exact fzP_pure (u64s_pure _) | exact fzP_pure (by assumption) | exact fzP_pure (by first | (simp [pureE, pure1, ints]; done) | (simp_all [pe_int, pe_bool, pe_str, pe_sl, pe_agg, p1_int, p1_bool, p1_str, p1_sl]; done)))⟩, ⟨_, rfl, rfl, rfl, (by first |  rfl | exact fzP_pure (ints_pure _) | exact fzP_pure (u64s_pure _) | exact fzP_pure (by assumption) | exact fzP_pure (by first | (simp [pureE, pure1, ints]; done) | (simp_all [pe_int, pe_bool, pe_str, pe_sl, pe_agg, p1_int, p1_bool, p1_str, p1_sl]; done)))⟩, trivial⟩ ?_ ?_)); repeat (first | exact only_refl | refine only_put rfl ?_ | refine only_less rfl ?_ | refine only_ov rfl ?_))
    | ((with_reducible apply n_val); rfl; rfl)
    | ((with_reducible apply n_new); rfl; (first | (simp only [hn0, hn1, hn2, hn3, hn4, hn5, List.length_cons, List.length_nil, Nat.reduceAdd, Nat.zero_add]; done) | (simp only [hn0, hn1, hn2, hn3, hn4, hn5, List.length_cons, List.length_nil, Nat.reduceAdd, Nat.zero_add]; rfl) | rfl); rfl)
    | ((with_reducible apply n_store); rfl; rfl; rfl; rfl; rfl)
    | ((with_reducible apply n_eqs_t); rfl; rfl; rfl)
    | ((with_reducible apply n_call (f := 7)); rfl; rfl; exact p_law05_awake)
    | ((with_reducible apply n_call (f := 25)); rfl; rfl; exact p_law05_ourFlat _ _ (by first | omega | decide | (simp only [decide_eq_true_eq, decide_eq_false_iff_not, Bool.or_eq_false_iff, Bool.not_eq_true', Bool.not_eq_false', Bool.not_true, Bool.not_false, ints_length, List.length_map, tab_length] at *; omega)))
    | ((with_reducible apply n_call (f := 26)); rfl; rfl; exact p_Flat _ (by first | exact rep_inF _ _ (by first | omega | decide | (simp only [decide_eq_true_eq, decide_eq_false_iff_not, Bool.or_eq_false_iff, Bool.not_eq_true', Bool.not_eq_false', Bool.not_true, Bool.not_false, ints_length, List.length_map, tab_length] at *; omega)) | (refine rep_outF ?_; repeat (first | assumption | exact few_all | exact few_none | apply few_flatE | apply few_join | apply few_set | exact (rep_inF _ _ (by first | omega | decide | (simp only [decide_eq_true_eq, decide_eq_false_iff_not, Bool.or_eq_false_iff, Bool.not_eq_true', Bool.not_eq_false', Bool.not_true, Bool.not_false, ints_length, List.length_map, tab_length] at *; omega))).few))))
    | ((with_reducible apply n_call (f := 13)); rfl; rfl; exact p_Def ..)
    | ((with_reducible apply n_call (f := 16)); rfl; rfl; exact p_Form ..)
    | ((with_reducible apply n_call (f := 11)); rfl; rfl; exact p_Uses ..)
    | ((with_reducible apply n_call (f := 21)); rfl; rfl; exact p_Vars ..)
    | ((with_reducible apply n_call (f := 27)); rfl; rfl; exact p_env_GetFlat _ (by first | exact rep_inF _ _ (by first | omega | decide | (simp only [decide_eq_true_eq, decide_eq_false_iff_not, Bool.or_eq_false_iff, Bool.not_eq_true', Bool.not_eq_false', Bool.not_true, Bool.not_false, ints_length, List.length_map, tab_length] at *; omega)) | (refine rep_outF ?_; repeat (first | assumption | exact few_all | exact few_none | apply few_flatE | apply few_join | apply few_set | exact (rep_inF _ _ (by first | omega | decide | (simp only [decide_eq_true_eq, decide_eq_false_iff_not, Bool.or_eq_false_iff, Bool.not_eq_true', Bool.not_eq_false', Bool.not_true, Bool.not_false, ints_length, List.length_map, tab_length] at *; omega))).few))))
    | ((with_reducible apply n_call (f := 28)); rfl; rfl; exact p_env_LeqFlat (by first | exact rep_inF _ _ (by first | omega | decide | (simp only [decide_eq_true_eq, decide_eq_false_iff_not, Bool.or_eq_false_iff, Bool.not_eq_true', Bool.not_eq_false', Bool.not_true, Bool.not_false, ints_length, List.length_map, tab_length] at *; omega)) | (refine rep_outF ?_; repeat (first | assumption | exact few_all | exact few_none | apply few_flatE | apply few_join | apply few_set | exact (rep_inF _ _ (by first | omega | decide | (simp only [decide_eq_true_eq, decide_eq_false_iff_not, Bool.or_eq_false_iff, Bool.not_eq_true', Bool.not_eq_false', Bool.not_true, Bool.not_false, ints_length, List.length_map, tab_length] at *; omega))).few))) (by first | exact rep_inF _ _ (by first | omega | decide | (simp only [decide_eq_true_eq, decide_eq_false_iff_not, Bool.or_eq_false_iff, Bool.not_eq_true', Bool.not_eq_false', Bool.not_true, Bool.not_false, ints_length, List.length_map, tab_length] at *; omega)) | (refine rep_outF ?_; repeat (first | assumption | exact few_all | exact few_none | apply few_flatE | apply few_join | apply few_set | exact (rep_inF _ _ (by first | omega | decide | (simp only [decide_eq_true_eq, decide_eq_false_iff_not, Bool.or_eq_false_iff, Bool.not_eq_true', Bool.not_eq_false', Bool.not_true, Bool.not_false, ints_length, List.length_map, tab_length] at *; omega))).few))))
    | ((with_reducible apply n_call (f := 29)); rfl; rfl; exact p_Of50 _)
    | ((with_reducible apply n_call (f := 10)); rfl; rfl; exact r_Live (by first | exact hR | (refine rep_mk ?_; (repeat (first | assumption | exact ok_zero (by omega) | exact ok_ofV _ _ (by decide) | apply ok_live | apply ok_reach | apply ok_or | apply ok_minus | apply ok_and | apply ok_with | apply ok_wout)))) _)
    | ((with_reducible apply n_call (f := 12)); rfl; rfl; exact r_bits_Has (by first | exact hR | (refine rep_mk ?_; (repeat (first | assumption | exact ok_zero (by omega) | exact ok_ofV _ _ (by decide) | apply ok_live | apply ok_reach | apply ok_or | apply ok_minus | apply ok_and | apply ok_with | apply ok_wout)))) _)
    | (with_reducible refine condT_split (fun h => ?_) (fun h => ?_))
    | ((with_reducible apply fnQ_told_ret); rfl)
    | ((with_reducible apply fnQ_ret_soft); rfl; rfl)
  all_goals (try dsimp only at *)
  all_goals (try simp only [decide_eq_true_eq, decide_eq_false_iff_not, ints_length] at *)
  · have h0 := ‹_ = true›
    rw [tells1] at h0
    cases h0
  · omega
  · obtain ⟨h1, h2, h3⟩ := hx
    rw [contains_take h1 h, h3]
    exact ⟨by omega, by omega, rfl⟩
  · obtain ⟨h1, h2, h3⟩ := hx
    rw [take_all (by omega)] at h3
    have t3 := tells3 i
    have t1 := vars_len i
    have t2 : (decide (defI i < 0) || decide (defI i ≥ 50) || (decide (0 ≤ defI i ∧ defI i < 50) && (liveV 50 (ofV 50 [defI i]) i).testBit (defI i).toNat) == r) = true := by
      by_cases e : defI i < 0 ∨ defI i ≥ 50
      · rcases e with e | e <;> simp [e]
      · rw [tells2 i e, h3]
        simp
    rw [t3, t2, decide_eq_true t1]
    rfl
  · exact ⟨by omega, by omega, rfl⟩

end Go.Vm

end
